/- The document's Adjust, operations 4 and 5, and all. -/
import Derived.Test.YtfjjipkieecpcaaMdRefAdj
namespace Go.Proofs.Ytfjjipkieecpcaa
open Go.RowKit Pl
set_option linter.unusedVariables false

set_option maxRecDepth 20000 in
set_option maxHeartbeats 1000000 in
theorem radj4_l (al ah base fl x y b X Y f1 f2 f3 G : Nat) (hal : al < 4294967296) (hah : ah < 4294967296) (hba : base < 4294967296) (hfl : fl < 4294967296)
    (ex : (al : Int) % 256 = (x : Int)) (ey : (ah : Int) % 256 = (y : Int)) (eb : (base : Int) % 256 = (b : Int)) (hx : x < 256) (hy : y < 256) (hb : b < 256) (hX : X < 256) (hY : Y < 256) (h9 : ((9 : Int) < (x : Int) % 16) = True) 
    (S1 : ∀ w, Calls Try.prog 27 #[.int .u32 fl, .int .u32 1, .bool false] w fun e w' => e = .returned (.int .u32 f1) ∧ w = w') 
    (S2 : ∀ w, Calls Try.prog 27 #[.int .u32 f1, .int .u32 16, .bool false] w fun e w' => e = .returned (.int .u32 f2) ∧ w = w') 
    (S3 : ∀ w, Calls Try.prog 27 #[.int .u32 f2, .int .u32 2048, .bool false] w fun e w' => e = .returned (.int .u32 f3) ∧ w = w') 
    (BY : ∀ (z : Int), z = (X : Int) → ∀ w, Calls Try.prog 28 #[.int .u64 z, .int .i64 8, .int .u32 f3] w fun e w' => e = .returned (.int .u32 G) ∧ w = w') 
    (b0 : 0 < b) (t0 : ((b : Int) == 0) = false) (qX : (x : Int) % (b : Int) = (X : Int)) (qY : (x : Int) / (b : Int) = (Y : Int)) (w : World) :
    Calls Try.prog 17 #[.int .i64 4, .int .u32 al, .int .u32 ah, .int .u32 base, .int .u32 fl] w fun e w' => e = .returned (.tuple #[.int .u32 (X : Int), .int .u32 (Y : Int), .int .u32 (G : Int), .bool true, .int .i64 0]) ∧ w = w' := by
  have HS1 := hide S1
  have HS2 := hide S2
  have HS3 := hide S3
  have HBY := hide BY
  clear S1 S2 S3 BY
  go_enter Try.func17, Try.ntmps17
  go_wp2_with fail
  refine (HS1.out _).mono ?_
  rintro e w' ⟨rfl, rfl⟩
  go_wp2_with fail
  refine (HS2.out _).mono ?_
  rintro e w' ⟨rfl, rfl⟩
  go_wp2_with fail
  refine (HS3.out _).mono ?_
  rintro e w' ⟨rfl, rfl⟩
  go_wp2_with fail
  refine (HBY.out _ (by first | rfl | omega) _).mono ?_
  rintro e w' ⟨rfl, rfl⟩
  go_wp2
  refine bodyPost_ret (results_tmp5 rfl _ _ _) rfl ?_
  exact ⟨ret_5 (by first | rfl | omega) (by first | rfl | omega), rfl⟩
set_option maxRecDepth 20000 in
set_option maxHeartbeats 1000000 in
theorem radj4_m (al ah base fl x y b X Y f1 f2 f3 G : Nat) (hal : al < 4294967296) (hah : ah < 4294967296) (hba : base < 4294967296) (hfl : fl < 4294967296)
    (ex : (al : Int) % 256 = (x : Int)) (ey : (ah : Int) % 256 = (y : Int)) (eb : (base : Int) % 256 = (b : Int)) (hx : x < 256) (hy : y < 256) (hb : b < 256) (hX : X < 256) (hY : Y < 256) (h9 : ((9 : Int) < (x : Int) % 16) = False) 
    (HA : ∀ w, Calls Try.prog 30 #[.int .u32 fl, .int .u32 16] w fun e w' => e = .returned (.bool true) ∧ w = w') 
    (S1 : ∀ w, Calls Try.prog 27 #[.int .u32 fl, .int .u32 1, .bool false] w fun e w' => e = .returned (.int .u32 f1) ∧ w = w') 
    (S2 : ∀ w, Calls Try.prog 27 #[.int .u32 f1, .int .u32 16, .bool false] w fun e w' => e = .returned (.int .u32 f2) ∧ w = w') 
    (S3 : ∀ w, Calls Try.prog 27 #[.int .u32 f2, .int .u32 2048, .bool false] w fun e w' => e = .returned (.int .u32 f3) ∧ w = w') 
    (BY : ∀ (z : Int), z = (X : Int) → ∀ w, Calls Try.prog 28 #[.int .u64 z, .int .i64 8, .int .u32 f3] w fun e w' => e = .returned (.int .u32 G) ∧ w = w') 
    (b0 : 0 < b) (t0 : ((b : Int) == 0) = false) (qX : (x : Int) % (b : Int) = (X : Int)) (qY : (x : Int) / (b : Int) = (Y : Int)) (w : World) :
    Calls Try.prog 17 #[.int .i64 4, .int .u32 al, .int .u32 ah, .int .u32 base, .int .u32 fl] w fun e w' => e = .returned (.tuple #[.int .u32 (X : Int), .int .u32 (Y : Int), .int .u32 (G : Int), .bool true, .int .i64 0]) ∧ w = w' := by
  have HHA := hide HA
  have HS1 := hide S1
  have HS2 := hide S2
  have HS3 := hide S3
  have HBY := hide BY
  clear HA S1 S2 S3 BY
  go_enter Try.func17, Try.ntmps17
  go_wp2_with fail
  refine (HHA.out _).mono ?_
  rintro e w' ⟨rfl, rfl⟩
  go_wp2_with fail
  refine (HS1.out _).mono ?_
  rintro e w' ⟨rfl, rfl⟩
  go_wp2_with fail
  refine (HS2.out _).mono ?_
  rintro e w' ⟨rfl, rfl⟩
  go_wp2_with fail
  refine (HS3.out _).mono ?_
  rintro e w' ⟨rfl, rfl⟩
  go_wp2_with fail
  refine (HBY.out _ (by first | rfl | omega) _).mono ?_
  rintro e w' ⟨rfl, rfl⟩
  go_wp2
  refine bodyPost_ret (results_tmp5 rfl _ _ _) rfl ?_
  exact ⟨ret_5 (by first | rfl | omega) (by first | rfl | omega), rfl⟩
set_option maxRecDepth 20000 in
set_option maxHeartbeats 1000000 in
theorem radj4_k (al ah base fl x y b X Y f1 f2 f3 G : Nat) (hal : al < 4294967296) (hah : ah < 4294967296) (hba : base < 4294967296) (hfl : fl < 4294967296)
    (ex : (al : Int) % 256 = (x : Int)) (ey : (ah : Int) % 256 = (y : Int)) (eb : (base : Int) % 256 = (b : Int)) (hx : x < 256) (hy : y < 256) (hb : b < 256) (hX : X < 256) (hY : Y < 256) (h9 : ((9 : Int) < (x : Int) % 16) = False) 
    (HA : ∀ w, Calls Try.prog 30 #[.int .u32 fl, .int .u32 16] w fun e w' => e = .returned (.bool false) ∧ w = w') 
    (S1 : ∀ w, Calls Try.prog 27 #[.int .u32 fl, .int .u32 1, .bool false] w fun e w' => e = .returned (.int .u32 f1) ∧ w = w') 
    (S2 : ∀ w, Calls Try.prog 27 #[.int .u32 f1, .int .u32 16, .bool false] w fun e w' => e = .returned (.int .u32 f2) ∧ w = w') 
    (S3 : ∀ w, Calls Try.prog 27 #[.int .u32 f2, .int .u32 2048, .bool false] w fun e w' => e = .returned (.int .u32 f3) ∧ w = w') 
    (BY : ∀ (z : Int), z = (X : Int) → ∀ w, Calls Try.prog 28 #[.int .u64 z, .int .i64 8, .int .u32 f3] w fun e w' => e = .returned (.int .u32 G) ∧ w = w') 
    (b0 : 0 < b) (t0 : ((b : Int) == 0) = false) (qX : (x : Int) % (b : Int) = (X : Int)) (qY : (x : Int) / (b : Int) = (Y : Int)) (w : World) :
    Calls Try.prog 17 #[.int .i64 4, .int .u32 al, .int .u32 ah, .int .u32 base, .int .u32 fl] w fun e w' => e = .returned (.tuple #[.int .u32 (X : Int), .int .u32 (Y : Int), .int .u32 (G : Int), .bool true, .int .i64 0]) ∧ w = w' := by
  have HHA := hide HA
  have HS1 := hide S1
  have HS2 := hide S2
  have HS3 := hide S3
  have HBY := hide BY
  clear HA S1 S2 S3 BY
  go_enter Try.func17, Try.ntmps17
  go_wp2_with fail
  refine (HHA.out _).mono ?_
  rintro e w' ⟨rfl, rfl⟩
  go_wp2_with fail
  refine (HS1.out _).mono ?_
  rintro e w' ⟨rfl, rfl⟩
  go_wp2_with fail
  refine (HS2.out _).mono ?_
  rintro e w' ⟨rfl, rfl⟩
  go_wp2_with fail
  refine (HS3.out _).mono ?_
  rintro e w' ⟨rfl, rfl⟩
  go_wp2_with fail
  refine (HBY.out _ (by first | rfl | omega) _).mono ?_
  rintro e w' ⟨rfl, rfl⟩
  go_wp2
  refine bodyPost_ret (results_tmp5 rfl _ _ _) rfl ?_
  exact ⟨ret_5 (by first | rfl | omega) (by first | rfl | omega), rfl⟩
set_option maxRecDepth 20000 in
set_option maxHeartbeats 1000000 in
theorem radj5_l (al ah base fl x y b X Y f1 f2 f3 G : Nat) (hal : al < 4294967296) (hah : ah < 4294967296) (hba : base < 4294967296) (hfl : fl < 4294967296)
    (ex : (al : Int) % 256 = (x : Int)) (ey : (ah : Int) % 256 = (y : Int)) (eb : (base : Int) % 256 = (b : Int)) (hx : x < 256) (hy : y < 256) (hb : b < 256) (hX : X < 256) (hY : Y < 256) (h9 : ((9 : Int) < (x : Int) % 16) = True) 
    (S1 : ∀ w, Calls Try.prog 27 #[.int .u32 fl, .int .u32 1, .bool false] w fun e w' => e = .returned (.int .u32 f1) ∧ w = w') 
    (S2 : ∀ w, Calls Try.prog 27 #[.int .u32 f1, .int .u32 16, .bool false] w fun e w' => e = .returned (.int .u32 f2) ∧ w = w') 
    (S3 : ∀ w, Calls Try.prog 27 #[.int .u32 f2, .int .u32 2048, .bool false] w fun e w' => e = .returned (.int .u32 f3) ∧ w = w') 
    (BY : ∀ (z : Int), z = (X : Int) → ∀ w, Calls Try.prog 28 #[.int .u64 z, .int .i64 8, .int .u32 f3] w fun e w' => e = .returned (.int .u32 G) ∧ w = w') 
    (p : Nat) (hp : p < 65536) (ep : IntKind.u64.wrap ((y : Int) * (b : Int)) = (p : Int)) (qX : X = (x + p) % 256) (w : World) :
    Calls Try.prog 17 #[.int .i64 5, .int .u32 al, .int .u32 ah, .int .u32 base, .int .u32 fl] w fun e w' => e = .returned (.tuple #[.int .u32 (X : Int), .int .u32 0, .int .u32 (G : Int), .bool true, .int .i64 0]) ∧ w = w' := by
  have HS1 := hide S1
  have HS2 := hide S2
  have HS3 := hide S3
  have HBY := hide BY
  clear S1 S2 S3 BY
  go_enter Try.func17, Try.ntmps17
  go_wp2_with fail
  refine (HS1.out _).mono ?_
  rintro e w' ⟨rfl, rfl⟩
  go_wp2_with fail
  refine (HS2.out _).mono ?_
  rintro e w' ⟨rfl, rfl⟩
  go_wp2_with fail
  refine (HS3.out _).mono ?_
  rintro e w' ⟨rfl, rfl⟩
  go_wp2_with fail
  refine (HBY.out _ (by first | rfl | omega) _).mono ?_
  rintro e w' ⟨rfl, rfl⟩
  go_wp2
  refine bodyPost_ret (results_tmp5 rfl _ _ _) rfl ?_
  exact ⟨ret_5 (by first | rfl | omega) (by first | rfl | omega), rfl⟩
set_option maxRecDepth 20000 in
set_option maxHeartbeats 1000000 in
theorem radj5_m (al ah base fl x y b X Y f1 f2 f3 G : Nat) (hal : al < 4294967296) (hah : ah < 4294967296) (hba : base < 4294967296) (hfl : fl < 4294967296)
    (ex : (al : Int) % 256 = (x : Int)) (ey : (ah : Int) % 256 = (y : Int)) (eb : (base : Int) % 256 = (b : Int)) (hx : x < 256) (hy : y < 256) (hb : b < 256) (hX : X < 256) (hY : Y < 256) (h9 : ((9 : Int) < (x : Int) % 16) = False) 
    (HA : ∀ w, Calls Try.prog 30 #[.int .u32 fl, .int .u32 16] w fun e w' => e = .returned (.bool true) ∧ w = w') 
    (S1 : ∀ w, Calls Try.prog 27 #[.int .u32 fl, .int .u32 1, .bool false] w fun e w' => e = .returned (.int .u32 f1) ∧ w = w') 
    (S2 : ∀ w, Calls Try.prog 27 #[.int .u32 f1, .int .u32 16, .bool false] w fun e w' => e = .returned (.int .u32 f2) ∧ w = w') 
    (S3 : ∀ w, Calls Try.prog 27 #[.int .u32 f2, .int .u32 2048, .bool false] w fun e w' => e = .returned (.int .u32 f3) ∧ w = w') 
    (BY : ∀ (z : Int), z = (X : Int) → ∀ w, Calls Try.prog 28 #[.int .u64 z, .int .i64 8, .int .u32 f3] w fun e w' => e = .returned (.int .u32 G) ∧ w = w') 
    (p : Nat) (hp : p < 65536) (ep : IntKind.u64.wrap ((y : Int) * (b : Int)) = (p : Int)) (qX : X = (x + p) % 256) (w : World) :
    Calls Try.prog 17 #[.int .i64 5, .int .u32 al, .int .u32 ah, .int .u32 base, .int .u32 fl] w fun e w' => e = .returned (.tuple #[.int .u32 (X : Int), .int .u32 0, .int .u32 (G : Int), .bool true, .int .i64 0]) ∧ w = w' := by
  have HHA := hide HA
  have HS1 := hide S1
  have HS2 := hide S2
  have HS3 := hide S3
  have HBY := hide BY
  clear HA S1 S2 S3 BY
  go_enter Try.func17, Try.ntmps17
  go_wp2_with fail
  refine (HHA.out _).mono ?_
  rintro e w' ⟨rfl, rfl⟩
  go_wp2_with fail
  refine (HS1.out _).mono ?_
  rintro e w' ⟨rfl, rfl⟩
  go_wp2_with fail
  refine (HS2.out _).mono ?_
  rintro e w' ⟨rfl, rfl⟩
  go_wp2_with fail
  refine (HS3.out _).mono ?_
  rintro e w' ⟨rfl, rfl⟩
  go_wp2_with fail
  refine (HBY.out _ (by first | rfl | omega) _).mono ?_
  rintro e w' ⟨rfl, rfl⟩
  go_wp2
  refine bodyPost_ret (results_tmp5 rfl _ _ _) rfl ?_
  exact ⟨ret_5 (by first | rfl | omega) (by first | rfl | omega), rfl⟩
set_option maxRecDepth 20000 in
set_option maxHeartbeats 1000000 in
theorem radj5_k (al ah base fl x y b X Y f1 f2 f3 G : Nat) (hal : al < 4294967296) (hah : ah < 4294967296) (hba : base < 4294967296) (hfl : fl < 4294967296)
    (ex : (al : Int) % 256 = (x : Int)) (ey : (ah : Int) % 256 = (y : Int)) (eb : (base : Int) % 256 = (b : Int)) (hx : x < 256) (hy : y < 256) (hb : b < 256) (hX : X < 256) (hY : Y < 256) (h9 : ((9 : Int) < (x : Int) % 16) = False) 
    (HA : ∀ w, Calls Try.prog 30 #[.int .u32 fl, .int .u32 16] w fun e w' => e = .returned (.bool false) ∧ w = w') 
    (S1 : ∀ w, Calls Try.prog 27 #[.int .u32 fl, .int .u32 1, .bool false] w fun e w' => e = .returned (.int .u32 f1) ∧ w = w') 
    (S2 : ∀ w, Calls Try.prog 27 #[.int .u32 f1, .int .u32 16, .bool false] w fun e w' => e = .returned (.int .u32 f2) ∧ w = w') 
    (S3 : ∀ w, Calls Try.prog 27 #[.int .u32 f2, .int .u32 2048, .bool false] w fun e w' => e = .returned (.int .u32 f3) ∧ w = w') 
    (BY : ∀ (z : Int), z = (X : Int) → ∀ w, Calls Try.prog 28 #[.int .u64 z, .int .i64 8, .int .u32 f3] w fun e w' => e = .returned (.int .u32 G) ∧ w = w') 
    (p : Nat) (hp : p < 65536) (ep : IntKind.u64.wrap ((y : Int) * (b : Int)) = (p : Int)) (qX : X = (x + p) % 256) (w : World) :
    Calls Try.prog 17 #[.int .i64 5, .int .u32 al, .int .u32 ah, .int .u32 base, .int .u32 fl] w fun e w' => e = .returned (.tuple #[.int .u32 (X : Int), .int .u32 0, .int .u32 (G : Int), .bool true, .int .i64 0]) ∧ w = w' := by
  have HHA := hide HA
  have HS1 := hide S1
  have HS2 := hide S2
  have HS3 := hide S3
  have HBY := hide BY
  clear HA S1 S2 S3 BY
  go_enter Try.func17, Try.ntmps17
  go_wp2_with fail
  refine (HHA.out _).mono ?_
  rintro e w' ⟨rfl, rfl⟩
  go_wp2_with fail
  refine (HS1.out _).mono ?_
  rintro e w' ⟨rfl, rfl⟩
  go_wp2_with fail
  refine (HS2.out _).mono ?_
  rintro e w' ⟨rfl, rfl⟩
  go_wp2_with fail
  refine (HS3.out _).mono ?_
  rintro e w' ⟨rfl, rfl⟩
  go_wp2_with fail
  refine (HBY.out _ (by first | rfl | omega) _).mono ?_
  rintro e w' ⟨rfl, rfl⟩
  go_wp2
  refine bodyPost_ret (results_tmp5 rfl _ _ _) rfl ?_
  exact ⟨ret_5 (by first | rfl | omega) (by first | rfl | omega), rfl⟩
set_option maxRecDepth 20000 in
set_option maxHeartbeats 1000000 in
theorem radj4z_l (al ah base fl x y : Nat) (hal : al < 4294967296) (hah : ah < 4294967296) (hba : base < 4294967296) (hfl : fl < 4294967296)
    (ex : (al : Int) % 256 = (x : Int)) (ey : (ah : Int) % 256 = (y : Int)) (eb : (base : Int) % 256 = 0) (hx : x < 256) (hy : y < 256) (h9 : ((9 : Int) < (x : Int) % 16) = True) (w : World) :
    Calls Try.prog 17 #[.int .i64 4, .int .u32 al, .int .u32 ah, .int .u32 base, .int .u32 fl] w fun e w' => e = .returned (.tuple #[.int .u32 0, .int .u32 0, .int .u32 0, .bool false, .int .i64 0]) ∧ w = w' := by
  go_enter Try.func17, Try.ntmps17
  go_wp2
  refine bodyPost_ret (results_tmp5 rfl _ _ _) rfl ?_
  exact ⟨rfl, rfl⟩
set_option maxRecDepth 20000 in
set_option maxHeartbeats 1000000 in
theorem radj4z_m (al ah base fl x y : Nat) (hal : al < 4294967296) (hah : ah < 4294967296) (hba : base < 4294967296) (hfl : fl < 4294967296)
    (ex : (al : Int) % 256 = (x : Int)) (ey : (ah : Int) % 256 = (y : Int)) (eb : (base : Int) % 256 = 0) (hx : x < 256) (hy : y < 256) (h9 : ((9 : Int) < (x : Int) % 16) = False)
    (HA : ∀ w, Calls Try.prog 30 #[.int .u32 fl, .int .u32 16] w fun e w' => e = .returned (.bool true) ∧ w = w') (w : World) :
    Calls Try.prog 17 #[.int .i64 4, .int .u32 al, .int .u32 ah, .int .u32 base, .int .u32 fl] w fun e w' => e = .returned (.tuple #[.int .u32 0, .int .u32 0, .int .u32 0, .bool false, .int .i64 0]) ∧ w = w' := by
  have HHA := hide HA
  clear HA
  go_enter Try.func17, Try.ntmps17
  go_wp2_with fail
  refine (HHA.out _).mono ?_
  rintro e w' ⟨rfl, rfl⟩
  go_wp2
  refine bodyPost_ret (results_tmp5 rfl _ _ _) rfl ?_
  exact ⟨rfl, rfl⟩
set_option maxRecDepth 20000 in
set_option maxHeartbeats 1000000 in
theorem radj4z_k (al ah base fl x y : Nat) (hal : al < 4294967296) (hah : ah < 4294967296) (hba : base < 4294967296) (hfl : fl < 4294967296)
    (ex : (al : Int) % 256 = (x : Int)) (ey : (ah : Int) % 256 = (y : Int)) (eb : (base : Int) % 256 = 0) (hx : x < 256) (hy : y < 256) (h9 : ((9 : Int) < (x : Int) % 16) = False)
    (HA : ∀ w, Calls Try.prog 30 #[.int .u32 fl, .int .u32 16] w fun e w' => e = .returned (.bool false) ∧ w = w') (w : World) :
    Calls Try.prog 17 #[.int .i64 4, .int .u32 al, .int .u32 ah, .int .u32 base, .int .u32 fl] w fun e w' => e = .returned (.tuple #[.int .u32 0, .int .u32 0, .int .u32 0, .bool false, .int .i64 0]) ∧ w = w' := by
  have HHA := hide HA
  clear HA
  go_enter Try.func17, Try.ntmps17
  go_wp2_with fail
  refine (HHA.out _).mono ?_
  rintro e w' ⟨rfl, rfl⟩
  go_wp2
  refine bodyPost_ret (results_tmp5 rfl _ _ _) rfl ?_
  exact ⟨rfl, rfl⟩
set_option maxRecDepth 20000 in
set_option maxHeartbeats 1000000 in
theorem radj_no_lo (n : Int) (h2 : (n < 0) = True) (a b c d : Int) (w : World) :
    Calls Try.prog 17 #[.int .i64 n, .int .u32 a, .int .u32 b, .int .u32 c, .int .u32 d] w fun e w' => e = .returned (.tuple #[.int .u32 0, .int .u32 0, .int .u32 0, .bool false, .int .i64 3]) ∧ w = w' := by
  go_enter Try.func17, Try.ntmps17
  go_wp2
  refine bodyPost_ret (results_tmp5 rfl _ _ _) rfl ?_
  exact ⟨rfl, rfl⟩
set_option maxRecDepth 20000 in
set_option maxHeartbeats 1000000 in
theorem radj_no_hi (n : Int) (h2 : (n < 0) = False) (h3 : (5 < n) = True) (a b c d : Int) (w : World) :
    Calls Try.prog 17 #[.int .i64 n, .int .u32 a, .int .u32 b, .int .u32 c, .int .u32 d] w fun e w' => e = .returned (.tuple #[.int .u32 0, .int .u32 0, .int .u32 0, .bool false, .int .i64 3]) ∧ w = w' := by
  go_enter Try.func17, Try.ntmps17
  go_wp2
  refine bodyPost_ret (results_tmp5 rfl _ _ _) rfl ?_
  exact ⟨rfl, rfl⟩
theorem nat_remR (a b : Nat) : (a : Int) % (b : Int) = ((a % b : Nat) : Int) := by simp
theorem nat_quoR (a b : Nat) : (a : Int) / (b : Int) = ((a / b : Nat) : Int) := by simp
theorem mul_lt_of (y b : Nat) (hy : y < 256) (hb : b < 256) : y * b < 65536 := Nat.mul_lt_mul'' hy hb
theorem wrap_yb (y b : Nat) (h : y * b < 65536) : IntKind.u64.wrap ((y : Int) * (b : Int)) = ((y * b : Nat) : Int) := by
  rw [show (y : Int) * (b : Int) = ((y * b : Nat) : Int) by simp]
  generalize y * b = p at *
  show (p : Int) % 18446744073709551616 = _
  omega
theorem radj_no (n : Int) (h : n < 0 ∨ 5 < n) (a b c d : Int) (w : World) :
    Calls Try.prog 17 #[.int .i64 n, .int .u32 a, .int .u32 b, .int .u32 c, .int .u32 d] w fun e w' => e = .returned (.tuple #[.int .u32 0, .int .u32 0, .int .u32 0, .bool false, .int .i64 3]) ∧ w = w' := by
  by_cases h2 : n < 0
  · exact radj_no_lo n (lt_yesR h2) a b c d w
  · exact radj_no_hi n (lt_noR h2) (lt_yesR (by omega)) a b c d w
theorem radj4_z (al ah base fl : Nat) (hal : al < 4294967296) (hah : ah < 4294967296) (hba : base < 4294967296) (hfl : fl < 4294967296) (hz : base % 256 = 0) (w : World) :
    Calls Try.prog 17 #[.int .i64 4, .int .u32 al, .int .u32 ah, .int .u32 base, .int .u32 fl] w fun e w' => e = .returned (.tuple #[.int .u32 0, .int .u32 0, .int .u32 0, .bool false, .int .i64 0]) ∧ w = w' := by
  have HA := hasR16_ok fl
  have x1 : (al : Int) % 256 = ((al % 256 : Nat) : Int) := by simp
  have x2 : (ah : Int) % 256 = ((ah % 256 : Nat) : Int) := by simp
  have x3 : (base : Int) % 256 = 0 := by omega
  have l1 : al % 256 < 256 := Nat.mod_lt _ (by decide)
  have l2 : ah % 256 < 256 := Nat.mod_lt _ (by decide)
  generalize al % 256 = x at *
  generalize ah % 256 = y at *
  generalize hasF fl 16 = af at *
  by_cases h9 : (9 : Int) < (x : Int) % 16
  · exact radj4z_l al ah base fl x y hal hah hba hfl x1 x2 x3 l1 l2 (lt_yesR h9) w
  · cases af
    · exact radj4z_k al ah base fl x y hal hah hba hfl x1 x2 x3 l1 l2 (lt_noR h9) HA w
    · exact radj4z_m al ah base fl x y hal hah hba hfl x1 x2 x3 l1 l2 (lt_noR h9) HA w
theorem byX (X f : Nat) (hf : f < 4294967296) (G : Nat) (hG : byF X 8 f = G) : ∀ (z : Int), z = (X : Int) → ∀ w, Calls Try.prog 28 #[.int .u64 z, .int .i64 8, .int .u32 f] w fun e w' => e = .returned (.int .u32 G) ∧ w = w' := by
  intro z hz w
  subst hz
  have h := by_ok X f 8 (.inl rfl) hf w
  simp only [Int.reduceToNat] at h
  rw [hG] at h
  exact h
theorem setC (f : Nat) (k : Int) (a : Bool) (hk : k = 1 ∨ k = 16 ∨ k = 2048) (hf : f < 4294967296) (g : Nat) (hg : setF f k.toNat a = g) : ∀ w, Calls Try.prog 27 #[.int .u32 f, .int .u32 k, .bool a] w fun e w' => e = .returned (.int .u32 g) ∧ w = w' := by
  intro w
  have h := set_ok f k a (by omega) hf w
  rw [hg] at h
  exact h
/-- the document's Adjust -/
theorem radj_ok (op : Nat) (ho : op ≤ 5) (al ah base fl : Nat) (hal : al < 4294967296) (hah : ah < 4294967296) (hba : base < 4294967296) (hfl : fl < 4294967296) (hz : ¬ (op = 4 ∧ base % 256 = 0)) (w : World) :
    Calls Try.prog 17 #[.int .i64 op, .int .u32 al, .int .u32 ah, .int .u32 base, .int .u32 fl] w fun e w' => e = .returned (.tuple #[.int .u32 ((adjX op (al % 256) (ah % 256) (base % 256) (hasF fl 1) (hasF fl 16) : Nat) : Int), .int .u32 ((adjY op (al % 256) (ah % 256) (base % 256) (hasF fl 16) : Nat) : Int),
      .int .u32 ((adjF fl (adjX op (al % 256) (ah % 256) (base % 256) (hasF fl 1) (hasF fl 16)) (adjC op (al % 256) (hasF fl 1) (hasF fl 16)) (adjA op (al % 256) (hasF fl 16)) : Nat) : Int), .bool true, .int .i64 0]) ∧ w = w' := by
  have HA := hasR16_ok fl
  have x1 : (al : Int) % 256 = ((al % 256 : Nat) : Int) := by simp
  have x2 : (ah : Int) % 256 = ((ah % 256 : Nat) : Int) := by simp
  have x3 : (base : Int) % 256 = ((base % 256 : Nat) : Int) := by simp
  have l1 : al % 256 < 256 := Nat.mod_lt _ (by decide)
  have l2 : ah % 256 < 256 := Nat.mod_lt _ (by decide)
  have l3 : base % 256 < 256 := Nat.mod_lt _ (by decide)
  have DA := fun less w => daa_ok less (al % 256) fl l1 hfl w
  generalize al % 256 = x at *
  generalize ah % 256 = y at *
  generalize base % 256 = b at *
  have s1 : ∀ c a, setF (setF fl 1 c) 16 a < 4294967296 := fun c a => lt16 a (lt1 c hfl)
  have s2 : ∀ c a, setF (setF (setF fl 1 c) 16 a) 2048 false < 4294967296 := fun c a => lt2048 _ (s1 c a)
  generalize hcf : hasF fl 1 = cf at *
  generalize haf : hasF fl 16 = af at *
  clear hcf haf
  rcases (by omega : op = 0 ∨ op = 1 ∨ op = 2 ∨ op = 3 ∨ op = 4 ∨ op = 5) with rfl | rfl | rfl | rfl | rfl | rfl
  · show Calls _ _ _ _ fun e w' => e = .returned (.tuple #[.int .u32 ((pkA false x cf af : Nat) : Int), .int .u32 (y : Int), .int .u32 ((byF (pkA false x cf af) 8 (setF (setF (setF fl 1 (pkC false x cf af)) 16 (loB x af)) 2048 false) : Nat) : Int), .bool true, .int .i64 0]) ∧ _
    by_cases h9 : (9 : Int) < (x : Int) % 16
    · skip
      exact radj0_l al ah base fl x y b _ 0 _ 0 _ _ hal hah hba hfl x1 x2 x3 l1 l2 l3 (pkA_lt false x cf af l1) (by decide : (0 : Nat) < 256) (lt_yesR h9) (DA false) (setC _ 2048 false (by decide) (s1 _ _) _ rfl) (byX _ _ (s2 _ _) _ rfl) w
    · cases af
      · skip
        exact radj0_k al ah base fl x y b _ 0 _ 0 _ _ hal hah hba hfl x1 x2 x3 l1 l2 l3 (pkA_lt false x cf false l1) (by decide : (0 : Nat) < 256) (lt_noR h9) HA (DA false) (setC _ 2048 false (by decide) (s1 _ _) _ rfl) (byX _ _ (s2 _ _) _ rfl) w
      · skip
        exact radj0_m al ah base fl x y b _ 0 _ 0 _ _ hal hah hba hfl x1 x2 x3 l1 l2 l3 (pkA_lt false x cf true l1) (by decide : (0 : Nat) < 256) (lt_noR h9) HA (DA false) (setC _ 2048 false (by decide) (s1 _ _) _ rfl) (byX _ _ (s2 _ _) _ rfl) w
  · show Calls _ _ _ _ fun e w' => e = .returned (.tuple #[.int .u32 ((pkA true x cf af : Nat) : Int), .int .u32 (y : Int), .int .u32 ((byF (pkA true x cf af) 8 (setF (setF (setF fl 1 (pkC true x cf af)) 16 (loB x af)) 2048 false) : Nat) : Int), .bool true, .int .i64 0]) ∧ _
    by_cases h9 : (9 : Int) < (x : Int) % 16
    · skip
      exact radj1_l al ah base fl x y b _ 0 _ 0 _ _ hal hah hba hfl x1 x2 x3 l1 l2 l3 (pkA_lt true x cf af l1) (by decide : (0 : Nat) < 256) (lt_yesR h9) (DA true) (setC _ 2048 false (by decide) (s1 _ _) _ rfl) (byX _ _ (s2 _ _) _ rfl) w
    · cases af
      · skip
        exact radj1_k al ah base fl x y b _ 0 _ 0 _ _ hal hah hba hfl x1 x2 x3 l1 l2 l3 (pkA_lt true x cf false l1) (by decide : (0 : Nat) < 256) (lt_noR h9) HA (DA true) (setC _ 2048 false (by decide) (s1 _ _) _ rfl) (byX _ _ (s2 _ _) _ rfl) w
      · skip
        exact radj1_m al ah base fl x y b _ 0 _ 0 _ _ hal hah hba hfl x1 x2 x3 l1 l2 l3 (pkA_lt true x cf true l1) (by decide : (0 : Nat) < 256) (lt_noR h9) HA (DA true) (setC _ 2048 false (by decide) (s1 _ _) _ rfl) (byX _ _ (s2 _ _) _ rfl) w
  · show Calls _ _ _ _ fun e w' => e = .returned (.tuple #[.int .u32 ((apA false x af : Nat) : Int), .int .u32 ((apH false x y af : Nat) : Int), .int .u32 ((byF (apA false x af) 8 (setF (setF (setF fl 1 (loB x af)) 16 (loB x af)) 2048 false) : Nat) : Int), .bool true, .int .i64 0]) ∧ _
    by_cases h9 : (9 : Int) < (x : Int) % 16
    · skip
      have el : loB x af = true := by simp [loB, decide_eq_true (show 9 < x % 16 by omega)]
      have eX : apA false x af = (x + 6) % 256 % 16 := by simp [apA, pkL, el]
      have eY : apH false x y af = (y + 1) % 256 := by simp [apH, el]
      rw [el]
      exact radj2_l al ah base fl x y b _ _ _ _ _ _ hal hah hba hfl x1 x2 x3 l1 l2 l3 (apA_lt false x af) (apH_lt false x y af l2) (lt_yesR h9) (setC _ 1 true (by decide) hfl _ rfl) (setC _ 16 true (by decide) (lt1 _ hfl) _ rfl) (setC _ 2048 false (by decide) (s1 _ _) _ rfl) (byX _ _ (s2 _ _) _ rfl) eX eY w
    · cases af
      · skip
        have el : loB x false = false := by simp [loB, decide_eq_false (show ¬ 9 < x % 16 by omega)]
        have eX : apA false x false = x % 16 := by simp [apA, pkL, el]
        have eY : apH false x y false = y := by simp [apH, el]
        rw [el]
        exact radj2_k al ah base fl x y b _ _ _ _ _ _ hal hah hba hfl x1 x2 x3 l1 l2 l3 (apA_lt false x false) (apH_lt false x y false l2) (lt_noR h9) HA (setC _ 1 false (by decide) hfl _ rfl) (setC _ 16 false (by decide) (lt1 _ hfl) _ rfl) (setC _ 2048 false (by decide) (s1 _ _) _ rfl) (byX _ _ (s2 _ _) _ rfl) eX eY w
      · skip
        have el : loB x true = true := by simp [loB, decide_eq_false (show ¬ 9 < x % 16 by omega)]
        have eX : apA false x true = (x + 6) % 256 % 16 := by simp [apA, pkL, el]
        have eY : apH false x y true = (y + 1) % 256 := by simp [apH, el]
        rw [el]
        exact radj2_m al ah base fl x y b _ _ _ _ _ _ hal hah hba hfl x1 x2 x3 l1 l2 l3 (apA_lt false x true) (apH_lt false x y true l2) (lt_noR h9) HA (setC _ 1 true (by decide) hfl _ rfl) (setC _ 16 true (by decide) (lt1 _ hfl) _ rfl) (setC _ 2048 false (by decide) (s1 _ _) _ rfl) (byX _ _ (s2 _ _) _ rfl) eX eY w
  · show Calls _ _ _ _ fun e w' => e = .returned (.tuple #[.int .u32 ((apA true x af : Nat) : Int), .int .u32 ((apH true x y af : Nat) : Int), .int .u32 ((byF (apA true x af) 8 (setF (setF (setF fl 1 (loB x af)) 16 (loB x af)) 2048 false) : Nat) : Int), .bool true, .int .i64 0]) ∧ _
    by_cases h9 : (9 : Int) < (x : Int) % 16
    · skip
      have el : loB x af = true := by simp [loB, decide_eq_true (show 9 < x % 16 by omega)]
      have eX : apA true x af = (x + 250) % 256 % 16 := by simp [apA, pkL, el]
      have eY : apH true x y af = (y + 255) % 256 := by simp [apH, el]
      rw [el]
      exact radj3_l al ah base fl x y b _ _ _ _ _ _ hal hah hba hfl x1 x2 x3 l1 l2 l3 (apA_lt true x af) (apH_lt true x y af l2) (lt_yesR h9) (setC _ 1 true (by decide) hfl _ rfl) (setC _ 16 true (by decide) (lt1 _ hfl) _ rfl) (setC _ 2048 false (by decide) (s1 _ _) _ rfl) (byX _ _ (s2 _ _) _ rfl) eX eY w
    · cases af
      · skip
        have el : loB x false = false := by simp [loB, decide_eq_false (show ¬ 9 < x % 16 by omega)]
        have eX : apA true x false = x % 16 := by simp [apA, pkL, el]
        have eY : apH true x y false = y := by simp [apH, el]
        rw [el]
        exact radj3_k al ah base fl x y b _ _ _ _ _ _ hal hah hba hfl x1 x2 x3 l1 l2 l3 (apA_lt true x false) (apH_lt true x y false l2) (lt_noR h9) HA (setC _ 1 false (by decide) hfl _ rfl) (setC _ 16 false (by decide) (lt1 _ hfl) _ rfl) (setC _ 2048 false (by decide) (s1 _ _) _ rfl) (byX _ _ (s2 _ _) _ rfl) eX eY w
      · skip
        have el : loB x true = true := by simp [loB, decide_eq_false (show ¬ 9 < x % 16 by omega)]
        have eX : apA true x true = (x + 250) % 256 % 16 := by simp [apA, pkL, el]
        have eY : apH true x y true = (y + 255) % 256 := by simp [apH, el]
        rw [el]
        exact radj3_m al ah base fl x y b _ _ _ _ _ _ hal hah hba hfl x1 x2 x3 l1 l2 l3 (apA_lt true x true) (apH_lt true x y true l2) (lt_noR h9) HA (setC _ 1 true (by decide) hfl _ rfl) (setC _ 16 true (by decide) (lt1 _ hfl) _ rfl) (setC _ 2048 false (by decide) (s1 _ _) _ rfl) (byX _ _ (s2 _ _) _ rfl) eX eY w
  · show Calls _ _ _ _ fun e w' => e = .returned (.tuple #[.int .u32 ((x % b : Nat) : Int), .int .u32 ((x / b : Nat) : Int), .int .u32 ((byF (x % b) 8 (setF (setF (setF fl 1 false) 16 false) 2048 false) : Nat) : Int), .bool true, .int .i64 0]) ∧ _
    have b0 : 0 < b := by omega
    by_cases h9 : (9 : Int) < (x : Int) % 16
    · skip
      exact radj4_l al ah base fl x y b _ _ _ _ _ _ hal hah hba hfl x1 x2 x3 l1 l2 l3 (Nat.lt_of_le_of_lt (Nat.mod_le _ _) l1) (Nat.lt_of_le_of_lt (Nat.div_le_self _ _) l1) (lt_yesR h9) (setC _ 1 false (by decide) hfl _ rfl) (setC _ 16 false (by decide) (lt1 _ hfl) _ rfl) (setC _ 2048 false (by decide) (s1 _ _) _ rfl) (byX _ _ (s2 _ _) _ rfl) b0 (by simp; omega) (nat_remR _ _) (nat_quoR _ _) w
    · cases af
      · skip
        exact radj4_k al ah base fl x y b _ _ _ _ _ _ hal hah hba hfl x1 x2 x3 l1 l2 l3 (Nat.lt_of_le_of_lt (Nat.mod_le _ _) l1) (Nat.lt_of_le_of_lt (Nat.div_le_self _ _) l1) (lt_noR h9) HA (setC _ 1 false (by decide) hfl _ rfl) (setC _ 16 false (by decide) (lt1 _ hfl) _ rfl) (setC _ 2048 false (by decide) (s1 _ _) _ rfl) (byX _ _ (s2 _ _) _ rfl) b0 (by simp; omega) (nat_remR _ _) (nat_quoR _ _) w
      · skip
        exact radj4_m al ah base fl x y b _ _ _ _ _ _ hal hah hba hfl x1 x2 x3 l1 l2 l3 (Nat.lt_of_le_of_lt (Nat.mod_le _ _) l1) (Nat.lt_of_le_of_lt (Nat.div_le_self _ _) l1) (lt_noR h9) HA (setC _ 1 false (by decide) hfl _ rfl) (setC _ 16 false (by decide) (lt1 _ hfl) _ rfl) (setC _ 2048 false (by decide) (s1 _ _) _ rfl) (byX _ _ (s2 _ _) _ rfl) b0 (by simp; omega) (nat_remR _ _) (nat_quoR _ _) w
  · show Calls _ _ _ _ fun e w' => e = .returned (.tuple #[.int .u32 (((x + y * b) % 256 : Nat) : Int), .int .u32 0, .int .u32 ((byF ((x + y * b) % 256) 8 (setF (setF (setF fl 1 false) 16 false) 2048 false) : Nat) : Int), .bool true, .int .i64 0]) ∧ _
    have py : y * b < 65536 := mul_lt_of y b l2 l3
    by_cases h9 : (9 : Int) < (x : Int) % 16
    · skip
      exact radj5_l al ah base fl x y b _ 0 _ _ _ _ hal hah hba hfl x1 x2 x3 l1 l2 l3 (Nat.mod_lt _ (by decide)) (by decide : (0 : Nat) < 256) (lt_yesR h9) (setC _ 1 false (by decide) hfl _ rfl) (setC _ 16 false (by decide) (lt1 _ hfl) _ rfl) (setC _ 2048 false (by decide) (s1 _ _) _ rfl) (byX _ _ (s2 _ _) _ rfl) (y * b) py (wrap_yb y b py) rfl w
    · cases af
      · skip
        exact radj5_k al ah base fl x y b _ 0 _ _ _ _ hal hah hba hfl x1 x2 x3 l1 l2 l3 (Nat.mod_lt _ (by decide)) (by decide : (0 : Nat) < 256) (lt_noR h9) HA (setC _ 1 false (by decide) hfl _ rfl) (setC _ 16 false (by decide) (lt1 _ hfl) _ rfl) (setC _ 2048 false (by decide) (s1 _ _) _ rfl) (byX _ _ (s2 _ _) _ rfl) (y * b) py (wrap_yb y b py) rfl w
      · skip
        exact radj5_m al ah base fl x y b _ 0 _ _ _ _ hal hah hba hfl x1 x2 x3 l1 l2 l3 (Nat.mod_lt _ (by decide)) (by decide : (0 : Nat) < 256) (lt_noR h9) HA (setC _ 1 false (by decide) hfl _ rfl) (setC _ 16 false (by decide) (lt1 _ hfl) _ rfl) (setC _ 2048 false (by decide) (s1 _ _) _ rfl) (byX _ _ (s2 _ _) _ rfl) (y * b) py (wrap_yb y b py) rfl w
end Go.Proofs.Ytfjjipkieecpcaa
