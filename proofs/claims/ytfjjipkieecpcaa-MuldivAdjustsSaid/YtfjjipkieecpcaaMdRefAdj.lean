/- The document's Adjust, operations 0 to 3. -/
import Derived.Test.YtfjjipkieecpcaaMdDaa
namespace Go.Proofs.Ytfjjipkieecpcaa
open Go.RowKit Pl
set_option linter.unusedVariables false

theorem ret_5 {a b c d g e : Int} {k : Bool} (h : a = c) (j : b = d) : Ending.returned (.tuple #[.int .u32 a, .int .u32 b, .int .u32 g, .bool k, .int .i64 e]) = Ending.returned (.tuple #[.int .u32 c, .int .u32 d, .int .u32 g, .bool k, .int .i64 e]) := by rw [h, j]
set_option maxRecDepth 20000 in
set_option maxHeartbeats 1000000 in
theorem radj0_l (al ah base fl x y b X Y f1 f2 f3 G : Nat) (hal : al < 4294967296) (hah : ah < 4294967296) (hba : base < 4294967296) (hfl : fl < 4294967296)
    (ex : (al : Int) % 256 = (x : Int)) (ey : (ah : Int) % 256 = (y : Int)) (eb : (base : Int) % 256 = (b : Int)) (hx : x < 256) (hy : y < 256) (hb : b < 256) (hX : X < 256) (hY : Y < 256) (h9 : ((9 : Int) < (x : Int) % 16) = True) 
    (DA : ∀ w, Calls Try.prog 31 #[.bool false, .int .u64 x, .int .u32 fl] w fun e w' => e = .returned (.tuple #[.int .u64 X, .int .u32 f1]) ∧ w = w') 
    (S3 : ∀ w, Calls Try.prog 27 #[.int .u32 f1, .int .u32 2048, .bool false] w fun e w' => e = .returned (.int .u32 f3) ∧ w = w') 
    (BY : ∀ (z : Int), z = (X : Int) → ∀ w, Calls Try.prog 28 #[.int .u64 z, .int .i64 8, .int .u32 f3] w fun e w' => e = .returned (.int .u32 G) ∧ w = w') (w : World) :
    Calls Try.prog 17 #[.int .i64 0, .int .u32 al, .int .u32 ah, .int .u32 base, .int .u32 fl] w fun e w' => e = .returned (.tuple #[.int .u32 (X : Int), .int .u32 (y : Int), .int .u32 (G : Int), .bool true, .int .i64 0]) ∧ w = w' := by
  have HDA := hide DA
  have HS3 := hide S3
  have HBY := hide BY
  clear DA S3 BY
  go_enter Try.func17, Try.ntmps17
  go_wp2_with fail
  refine (HDA.out _).mono ?_
  rintro e w' ⟨rfl, rfl⟩
  go_wp2_with fail
  refine (HS3.out _).mono ?_
  rintro e w' ⟨rfl, rfl⟩
  go_wp2_with fail
  refine (HBY.out _ (by first | rfl | omega) _).mono ?_
  rintro e w' ⟨rfl, rfl⟩
  go_wp2
  refine bodyPost_ret (results_tmp5 rfl _ _ _) rfl ?_
  exact ⟨ret_5 (by first | rfl | omega) (by first | rfl | omega), rfl⟩
set_option maxRecDepth 20000 in
set_option maxHeartbeats 1000000 in
theorem radj0_m (al ah base fl x y b X Y f1 f2 f3 G : Nat) (hal : al < 4294967296) (hah : ah < 4294967296) (hba : base < 4294967296) (hfl : fl < 4294967296)
    (ex : (al : Int) % 256 = (x : Int)) (ey : (ah : Int) % 256 = (y : Int)) (eb : (base : Int) % 256 = (b : Int)) (hx : x < 256) (hy : y < 256) (hb : b < 256) (hX : X < 256) (hY : Y < 256) (h9 : ((9 : Int) < (x : Int) % 16) = False) 
    (HA : ∀ w, Calls Try.prog 30 #[.int .u32 fl, .int .u32 16] w fun e w' => e = .returned (.bool true) ∧ w = w') 
    (DA : ∀ w, Calls Try.prog 31 #[.bool false, .int .u64 x, .int .u32 fl] w fun e w' => e = .returned (.tuple #[.int .u64 X, .int .u32 f1]) ∧ w = w') 
    (S3 : ∀ w, Calls Try.prog 27 #[.int .u32 f1, .int .u32 2048, .bool false] w fun e w' => e = .returned (.int .u32 f3) ∧ w = w') 
    (BY : ∀ (z : Int), z = (X : Int) → ∀ w, Calls Try.prog 28 #[.int .u64 z, .int .i64 8, .int .u32 f3] w fun e w' => e = .returned (.int .u32 G) ∧ w = w') (w : World) :
    Calls Try.prog 17 #[.int .i64 0, .int .u32 al, .int .u32 ah, .int .u32 base, .int .u32 fl] w fun e w' => e = .returned (.tuple #[.int .u32 (X : Int), .int .u32 (y : Int), .int .u32 (G : Int), .bool true, .int .i64 0]) ∧ w = w' := by
  have HHA := hide HA
  have HDA := hide DA
  have HS3 := hide S3
  have HBY := hide BY
  clear HA DA S3 BY
  go_enter Try.func17, Try.ntmps17
  go_wp2_with fail
  refine (HHA.out _).mono ?_
  rintro e w' ⟨rfl, rfl⟩
  go_wp2_with fail
  refine (HDA.out _).mono ?_
  rintro e w' ⟨rfl, rfl⟩
  go_wp2_with fail
  refine (HS3.out _).mono ?_
  rintro e w' ⟨rfl, rfl⟩
  go_wp2_with fail
  refine (HBY.out _ (by first | rfl | omega) _).mono ?_
  rintro e w' ⟨rfl, rfl⟩
  go_wp2
  refine bodyPost_ret (results_tmp5 rfl _ _ _) rfl ?_
  exact ⟨ret_5 (by first | rfl | omega) (by first | rfl | omega), rfl⟩
set_option maxRecDepth 20000 in
set_option maxHeartbeats 1000000 in
theorem radj0_k (al ah base fl x y b X Y f1 f2 f3 G : Nat) (hal : al < 4294967296) (hah : ah < 4294967296) (hba : base < 4294967296) (hfl : fl < 4294967296)
    (ex : (al : Int) % 256 = (x : Int)) (ey : (ah : Int) % 256 = (y : Int)) (eb : (base : Int) % 256 = (b : Int)) (hx : x < 256) (hy : y < 256) (hb : b < 256) (hX : X < 256) (hY : Y < 256) (h9 : ((9 : Int) < (x : Int) % 16) = False) 
    (HA : ∀ w, Calls Try.prog 30 #[.int .u32 fl, .int .u32 16] w fun e w' => e = .returned (.bool false) ∧ w = w') 
    (DA : ∀ w, Calls Try.prog 31 #[.bool false, .int .u64 x, .int .u32 fl] w fun e w' => e = .returned (.tuple #[.int .u64 X, .int .u32 f1]) ∧ w = w') 
    (S3 : ∀ w, Calls Try.prog 27 #[.int .u32 f1, .int .u32 2048, .bool false] w fun e w' => e = .returned (.int .u32 f3) ∧ w = w') 
    (BY : ∀ (z : Int), z = (X : Int) → ∀ w, Calls Try.prog 28 #[.int .u64 z, .int .i64 8, .int .u32 f3] w fun e w' => e = .returned (.int .u32 G) ∧ w = w') (w : World) :
    Calls Try.prog 17 #[.int .i64 0, .int .u32 al, .int .u32 ah, .int .u32 base, .int .u32 fl] w fun e w' => e = .returned (.tuple #[.int .u32 (X : Int), .int .u32 (y : Int), .int .u32 (G : Int), .bool true, .int .i64 0]) ∧ w = w' := by
  have HHA := hide HA
  have HDA := hide DA
  have HS3 := hide S3
  have HBY := hide BY
  clear HA DA S3 BY
  go_enter Try.func17, Try.ntmps17
  go_wp2_with fail
  refine (HHA.out _).mono ?_
  rintro e w' ⟨rfl, rfl⟩
  go_wp2_with fail
  refine (HDA.out _).mono ?_
  rintro e w' ⟨rfl, rfl⟩
  go_wp2_with fail
  refine (HS3.out _).mono ?_
  rintro e w' ⟨rfl, rfl⟩
  go_wp2_with fail
  refine (HBY.out _ (by first | rfl | omega) _).mono ?_
  rintro e w' ⟨rfl, rfl⟩
  go_wp2
  refine bodyPost_ret (results_tmp5 rfl _ _ _) rfl ?_
  exact ⟨ret_5 (by first | rfl | omega) (by first | rfl | omega), rfl⟩
set_option maxRecDepth 20000 in
set_option maxHeartbeats 1000000 in
theorem radj1_l (al ah base fl x y b X Y f1 f2 f3 G : Nat) (hal : al < 4294967296) (hah : ah < 4294967296) (hba : base < 4294967296) (hfl : fl < 4294967296)
    (ex : (al : Int) % 256 = (x : Int)) (ey : (ah : Int) % 256 = (y : Int)) (eb : (base : Int) % 256 = (b : Int)) (hx : x < 256) (hy : y < 256) (hb : b < 256) (hX : X < 256) (hY : Y < 256) (h9 : ((9 : Int) < (x : Int) % 16) = True) 
    (DA : ∀ w, Calls Try.prog 31 #[.bool true, .int .u64 x, .int .u32 fl] w fun e w' => e = .returned (.tuple #[.int .u64 X, .int .u32 f1]) ∧ w = w') 
    (S3 : ∀ w, Calls Try.prog 27 #[.int .u32 f1, .int .u32 2048, .bool false] w fun e w' => e = .returned (.int .u32 f3) ∧ w = w') 
    (BY : ∀ (z : Int), z = (X : Int) → ∀ w, Calls Try.prog 28 #[.int .u64 z, .int .i64 8, .int .u32 f3] w fun e w' => e = .returned (.int .u32 G) ∧ w = w') (w : World) :
    Calls Try.prog 17 #[.int .i64 1, .int .u32 al, .int .u32 ah, .int .u32 base, .int .u32 fl] w fun e w' => e = .returned (.tuple #[.int .u32 (X : Int), .int .u32 (y : Int), .int .u32 (G : Int), .bool true, .int .i64 0]) ∧ w = w' := by
  have HDA := hide DA
  have HS3 := hide S3
  have HBY := hide BY
  clear DA S3 BY
  go_enter Try.func17, Try.ntmps17
  go_wp2_with fail
  refine (HDA.out _).mono ?_
  rintro e w' ⟨rfl, rfl⟩
  go_wp2_with fail
  refine (HS3.out _).mono ?_
  rintro e w' ⟨rfl, rfl⟩
  go_wp2_with fail
  refine (HBY.out _ (by first | rfl | omega) _).mono ?_
  rintro e w' ⟨rfl, rfl⟩
  go_wp2
  refine bodyPost_ret (results_tmp5 rfl _ _ _) rfl ?_
  exact ⟨ret_5 (by first | rfl | omega) (by first | rfl | omega), rfl⟩
set_option maxRecDepth 20000 in
set_option maxHeartbeats 1000000 in
theorem radj1_m (al ah base fl x y b X Y f1 f2 f3 G : Nat) (hal : al < 4294967296) (hah : ah < 4294967296) (hba : base < 4294967296) (hfl : fl < 4294967296)
    (ex : (al : Int) % 256 = (x : Int)) (ey : (ah : Int) % 256 = (y : Int)) (eb : (base : Int) % 256 = (b : Int)) (hx : x < 256) (hy : y < 256) (hb : b < 256) (hX : X < 256) (hY : Y < 256) (h9 : ((9 : Int) < (x : Int) % 16) = False) 
    (HA : ∀ w, Calls Try.prog 30 #[.int .u32 fl, .int .u32 16] w fun e w' => e = .returned (.bool true) ∧ w = w') 
    (DA : ∀ w, Calls Try.prog 31 #[.bool true, .int .u64 x, .int .u32 fl] w fun e w' => e = .returned (.tuple #[.int .u64 X, .int .u32 f1]) ∧ w = w') 
    (S3 : ∀ w, Calls Try.prog 27 #[.int .u32 f1, .int .u32 2048, .bool false] w fun e w' => e = .returned (.int .u32 f3) ∧ w = w') 
    (BY : ∀ (z : Int), z = (X : Int) → ∀ w, Calls Try.prog 28 #[.int .u64 z, .int .i64 8, .int .u32 f3] w fun e w' => e = .returned (.int .u32 G) ∧ w = w') (w : World) :
    Calls Try.prog 17 #[.int .i64 1, .int .u32 al, .int .u32 ah, .int .u32 base, .int .u32 fl] w fun e w' => e = .returned (.tuple #[.int .u32 (X : Int), .int .u32 (y : Int), .int .u32 (G : Int), .bool true, .int .i64 0]) ∧ w = w' := by
  have HHA := hide HA
  have HDA := hide DA
  have HS3 := hide S3
  have HBY := hide BY
  clear HA DA S3 BY
  go_enter Try.func17, Try.ntmps17
  go_wp2_with fail
  refine (HHA.out _).mono ?_
  rintro e w' ⟨rfl, rfl⟩
  go_wp2_with fail
  refine (HDA.out _).mono ?_
  rintro e w' ⟨rfl, rfl⟩
  go_wp2_with fail
  refine (HS3.out _).mono ?_
  rintro e w' ⟨rfl, rfl⟩
  go_wp2_with fail
  refine (HBY.out _ (by first | rfl | omega) _).mono ?_
  rintro e w' ⟨rfl, rfl⟩
  go_wp2
  refine bodyPost_ret (results_tmp5 rfl _ _ _) rfl ?_
  exact ⟨ret_5 (by first | rfl | omega) (by first | rfl | omega), rfl⟩
set_option maxRecDepth 20000 in
set_option maxHeartbeats 1000000 in
theorem radj1_k (al ah base fl x y b X Y f1 f2 f3 G : Nat) (hal : al < 4294967296) (hah : ah < 4294967296) (hba : base < 4294967296) (hfl : fl < 4294967296)
    (ex : (al : Int) % 256 = (x : Int)) (ey : (ah : Int) % 256 = (y : Int)) (eb : (base : Int) % 256 = (b : Int)) (hx : x < 256) (hy : y < 256) (hb : b < 256) (hX : X < 256) (hY : Y < 256) (h9 : ((9 : Int) < (x : Int) % 16) = False) 
    (HA : ∀ w, Calls Try.prog 30 #[.int .u32 fl, .int .u32 16] w fun e w' => e = .returned (.bool false) ∧ w = w') 
    (DA : ∀ w, Calls Try.prog 31 #[.bool true, .int .u64 x, .int .u32 fl] w fun e w' => e = .returned (.tuple #[.int .u64 X, .int .u32 f1]) ∧ w = w') 
    (S3 : ∀ w, Calls Try.prog 27 #[.int .u32 f1, .int .u32 2048, .bool false] w fun e w' => e = .returned (.int .u32 f3) ∧ w = w') 
    (BY : ∀ (z : Int), z = (X : Int) → ∀ w, Calls Try.prog 28 #[.int .u64 z, .int .i64 8, .int .u32 f3] w fun e w' => e = .returned (.int .u32 G) ∧ w = w') (w : World) :
    Calls Try.prog 17 #[.int .i64 1, .int .u32 al, .int .u32 ah, .int .u32 base, .int .u32 fl] w fun e w' => e = .returned (.tuple #[.int .u32 (X : Int), .int .u32 (y : Int), .int .u32 (G : Int), .bool true, .int .i64 0]) ∧ w = w' := by
  have HHA := hide HA
  have HDA := hide DA
  have HS3 := hide S3
  have HBY := hide BY
  clear HA DA S3 BY
  go_enter Try.func17, Try.ntmps17
  go_wp2_with fail
  refine (HHA.out _).mono ?_
  rintro e w' ⟨rfl, rfl⟩
  go_wp2_with fail
  refine (HDA.out _).mono ?_
  rintro e w' ⟨rfl, rfl⟩
  go_wp2_with fail
  refine (HS3.out _).mono ?_
  rintro e w' ⟨rfl, rfl⟩
  go_wp2_with fail
  refine (HBY.out _ (by first | rfl | omega) _).mono ?_
  rintro e w' ⟨rfl, rfl⟩
  go_wp2
  refine bodyPost_ret (results_tmp5 rfl _ _ _) rfl ?_
  exact ⟨ret_5 (by first | rfl | omega) (by first | rfl | omega), rfl⟩
set_option maxRecDepth 20000 in
set_option maxHeartbeats 1000000 in
theorem radj2_l (al ah base fl x y b X Y f1 f2 f3 G : Nat) (hal : al < 4294967296) (hah : ah < 4294967296) (hba : base < 4294967296) (hfl : fl < 4294967296)
    (ex : (al : Int) % 256 = (x : Int)) (ey : (ah : Int) % 256 = (y : Int)) (eb : (base : Int) % 256 = (b : Int)) (hx : x < 256) (hy : y < 256) (hb : b < 256) (hX : X < 256) (hY : Y < 256) (h9 : ((9 : Int) < (x : Int) % 16) = True) 
    (S1 : ∀ w, Calls Try.prog 27 #[.int .u32 fl, .int .u32 1, .bool true] w fun e w' => e = .returned (.int .u32 f1) ∧ w = w') 
    (S2 : ∀ w, Calls Try.prog 27 #[.int .u32 f1, .int .u32 16, .bool true] w fun e w' => e = .returned (.int .u32 f2) ∧ w = w') 
    (S3 : ∀ w, Calls Try.prog 27 #[.int .u32 f2, .int .u32 2048, .bool false] w fun e w' => e = .returned (.int .u32 f3) ∧ w = w') 
    (BY : ∀ (z : Int), z = (X : Int) → ∀ w, Calls Try.prog 28 #[.int .u64 z, .int .i64 8, .int .u32 f3] w fun e w' => e = .returned (.int .u32 G) ∧ w = w') 
    (qX : X = (x + 6) % 256 % 16) (qY : Y = (y + 1) % 256) (w : World) :
    Calls Try.prog 17 #[.int .i64 2, .int .u32 al, .int .u32 ah, .int .u32 base, .int .u32 fl] w fun e w' => e = .returned (.tuple #[.int .u32 (X : Int), .int .u32 (Y : Int), .int .u32 (G : Int), .bool true, .int .i64 0]) ∧ w = w' := by
  have HS1 := hide S1
  have HS2 := hide S2
  have HS3 := hide S3
  have HBY := hide BY
  clear S1 S2 S3 BY
  go_enter Try.func17, Try.ntmps17
  go_wp2_with fail
  refine (HS1.out _).mono ?_
  rintro e w' ⟨rfl, rfl⟩
  go_wp2_with fail
  refine (HS2.out _).mono ?_
  rintro e w' ⟨rfl, rfl⟩
  go_wp2_with fail
  refine (HS3.out _).mono ?_
  rintro e w' ⟨rfl, rfl⟩
  go_wp2_with fail
  refine (HBY.out _ (by first | rfl | omega) _).mono ?_
  rintro e w' ⟨rfl, rfl⟩
  go_wp2
  refine bodyPost_ret (results_tmp5 rfl _ _ _) rfl ?_
  exact ⟨ret_5 (by first | rfl | omega) (by first | rfl | omega), rfl⟩
set_option maxRecDepth 20000 in
set_option maxHeartbeats 1000000 in
theorem radj2_m (al ah base fl x y b X Y f1 f2 f3 G : Nat) (hal : al < 4294967296) (hah : ah < 4294967296) (hba : base < 4294967296) (hfl : fl < 4294967296)
    (ex : (al : Int) % 256 = (x : Int)) (ey : (ah : Int) % 256 = (y : Int)) (eb : (base : Int) % 256 = (b : Int)) (hx : x < 256) (hy : y < 256) (hb : b < 256) (hX : X < 256) (hY : Y < 256) (h9 : ((9 : Int) < (x : Int) % 16) = False) 
    (HA : ∀ w, Calls Try.prog 30 #[.int .u32 fl, .int .u32 16] w fun e w' => e = .returned (.bool true) ∧ w = w') 
    (S1 : ∀ w, Calls Try.prog 27 #[.int .u32 fl, .int .u32 1, .bool true] w fun e w' => e = .returned (.int .u32 f1) ∧ w = w') 
    (S2 : ∀ w, Calls Try.prog 27 #[.int .u32 f1, .int .u32 16, .bool true] w fun e w' => e = .returned (.int .u32 f2) ∧ w = w') 
    (S3 : ∀ w, Calls Try.prog 27 #[.int .u32 f2, .int .u32 2048, .bool false] w fun e w' => e = .returned (.int .u32 f3) ∧ w = w') 
    (BY : ∀ (z : Int), z = (X : Int) → ∀ w, Calls Try.prog 28 #[.int .u64 z, .int .i64 8, .int .u32 f3] w fun e w' => e = .returned (.int .u32 G) ∧ w = w') 
    (qX : X = (x + 6) % 256 % 16) (qY : Y = (y + 1) % 256) (w : World) :
    Calls Try.prog 17 #[.int .i64 2, .int .u32 al, .int .u32 ah, .int .u32 base, .int .u32 fl] w fun e w' => e = .returned (.tuple #[.int .u32 (X : Int), .int .u32 (Y : Int), .int .u32 (G : Int), .bool true, .int .i64 0]) ∧ w = w' := by
  have HHA := hide HA
  have HS1 := hide S1
  have HS2 := hide S2
  have HS3 := hide S3
  have HBY := hide BY
  clear HA S1 S2 S3 BY
  go_enter Try.func17, Try.ntmps17
  go_wp2_with fail
  refine (HHA.out _).mono ?_
  rintro e w' ⟨rfl, rfl⟩
  go_wp2_with fail
  refine (HS1.out _).mono ?_
  rintro e w' ⟨rfl, rfl⟩
  go_wp2_with fail
  refine (HS2.out _).mono ?_
  rintro e w' ⟨rfl, rfl⟩
  go_wp2_with fail
  refine (HS3.out _).mono ?_
  rintro e w' ⟨rfl, rfl⟩
  go_wp2_with fail
  refine (HBY.out _ (by first | rfl | omega) _).mono ?_
  rintro e w' ⟨rfl, rfl⟩
  go_wp2
  refine bodyPost_ret (results_tmp5 rfl _ _ _) rfl ?_
  exact ⟨ret_5 (by first | rfl | omega) (by first | rfl | omega), rfl⟩
set_option maxRecDepth 20000 in
set_option maxHeartbeats 1000000 in
theorem radj2_k (al ah base fl x y b X Y f1 f2 f3 G : Nat) (hal : al < 4294967296) (hah : ah < 4294967296) (hba : base < 4294967296) (hfl : fl < 4294967296)
    (ex : (al : Int) % 256 = (x : Int)) (ey : (ah : Int) % 256 = (y : Int)) (eb : (base : Int) % 256 = (b : Int)) (hx : x < 256) (hy : y < 256) (hb : b < 256) (hX : X < 256) (hY : Y < 256) (h9 : ((9 : Int) < (x : Int) % 16) = False) 
    (HA : ∀ w, Calls Try.prog 30 #[.int .u32 fl, .int .u32 16] w fun e w' => e = .returned (.bool false) ∧ w = w') 
    (S1 : ∀ w, Calls Try.prog 27 #[.int .u32 fl, .int .u32 1, .bool false] w fun e w' => e = .returned (.int .u32 f1) ∧ w = w') 
    (S2 : ∀ w, Calls Try.prog 27 #[.int .u32 f1, .int .u32 16, .bool false] w fun e w' => e = .returned (.int .u32 f2) ∧ w = w') 
    (S3 : ∀ w, Calls Try.prog 27 #[.int .u32 f2, .int .u32 2048, .bool false] w fun e w' => e = .returned (.int .u32 f3) ∧ w = w') 
    (BY : ∀ (z : Int), z = (X : Int) → ∀ w, Calls Try.prog 28 #[.int .u64 z, .int .i64 8, .int .u32 f3] w fun e w' => e = .returned (.int .u32 G) ∧ w = w') 
    (qX : X = x % 16) (qY : Y = y) (w : World) :
    Calls Try.prog 17 #[.int .i64 2, .int .u32 al, .int .u32 ah, .int .u32 base, .int .u32 fl] w fun e w' => e = .returned (.tuple #[.int .u32 (X : Int), .int .u32 (Y : Int), .int .u32 (G : Int), .bool true, .int .i64 0]) ∧ w = w' := by
  have HHA := hide HA
  have HS1 := hide S1
  have HS2 := hide S2
  have HS3 := hide S3
  have HBY := hide BY
  clear HA S1 S2 S3 BY
  go_enter Try.func17, Try.ntmps17
  go_wp2_with fail
  refine (HHA.out _).mono ?_
  rintro e w' ⟨rfl, rfl⟩
  go_wp2_with fail
  refine (HS1.out _).mono ?_
  rintro e w' ⟨rfl, rfl⟩
  go_wp2_with fail
  refine (HS2.out _).mono ?_
  rintro e w' ⟨rfl, rfl⟩
  go_wp2_with fail
  refine (HS3.out _).mono ?_
  rintro e w' ⟨rfl, rfl⟩
  go_wp2_with fail
  refine (HBY.out _ (by first | rfl | omega) _).mono ?_
  rintro e w' ⟨rfl, rfl⟩
  go_wp2
  refine bodyPost_ret (results_tmp5 rfl _ _ _) rfl ?_
  exact ⟨ret_5 (by first | rfl | omega) (by first | rfl | omega), rfl⟩
set_option maxRecDepth 20000 in
set_option maxHeartbeats 1000000 in
theorem radj3_l (al ah base fl x y b X Y f1 f2 f3 G : Nat) (hal : al < 4294967296) (hah : ah < 4294967296) (hba : base < 4294967296) (hfl : fl < 4294967296)
    (ex : (al : Int) % 256 = (x : Int)) (ey : (ah : Int) % 256 = (y : Int)) (eb : (base : Int) % 256 = (b : Int)) (hx : x < 256) (hy : y < 256) (hb : b < 256) (hX : X < 256) (hY : Y < 256) (h9 : ((9 : Int) < (x : Int) % 16) = True) 
    (S1 : ∀ w, Calls Try.prog 27 #[.int .u32 fl, .int .u32 1, .bool true] w fun e w' => e = .returned (.int .u32 f1) ∧ w = w') 
    (S2 : ∀ w, Calls Try.prog 27 #[.int .u32 f1, .int .u32 16, .bool true] w fun e w' => e = .returned (.int .u32 f2) ∧ w = w') 
    (S3 : ∀ w, Calls Try.prog 27 #[.int .u32 f2, .int .u32 2048, .bool false] w fun e w' => e = .returned (.int .u32 f3) ∧ w = w') 
    (BY : ∀ (z : Int), z = (X : Int) → ∀ w, Calls Try.prog 28 #[.int .u64 z, .int .i64 8, .int .u32 f3] w fun e w' => e = .returned (.int .u32 G) ∧ w = w') 
    (qX : X = (x + 250) % 256 % 16) (qY : Y = (y + 255) % 256) (w : World) :
    Calls Try.prog 17 #[.int .i64 3, .int .u32 al, .int .u32 ah, .int .u32 base, .int .u32 fl] w fun e w' => e = .returned (.tuple #[.int .u32 (X : Int), .int .u32 (Y : Int), .int .u32 (G : Int), .bool true, .int .i64 0]) ∧ w = w' := by
  have HS1 := hide S1
  have HS2 := hide S2
  have HS3 := hide S3
  have HBY := hide BY
  clear S1 S2 S3 BY
  go_enter Try.func17, Try.ntmps17
  go_wp2_with fail
  refine (HS1.out _).mono ?_
  rintro e w' ⟨rfl, rfl⟩
  go_wp2_with fail
  refine (HS2.out _).mono ?_
  rintro e w' ⟨rfl, rfl⟩
  go_wp2_with fail
  refine (HS3.out _).mono ?_
  rintro e w' ⟨rfl, rfl⟩
  go_wp2_with fail
  refine (HBY.out _ (by first | rfl | omega) _).mono ?_
  rintro e w' ⟨rfl, rfl⟩
  go_wp2
  refine bodyPost_ret (results_tmp5 rfl _ _ _) rfl ?_
  exact ⟨ret_5 (by first | rfl | omega) (by first | rfl | omega), rfl⟩
set_option maxRecDepth 20000 in
set_option maxHeartbeats 1000000 in
theorem radj3_m (al ah base fl x y b X Y f1 f2 f3 G : Nat) (hal : al < 4294967296) (hah : ah < 4294967296) (hba : base < 4294967296) (hfl : fl < 4294967296)
    (ex : (al : Int) % 256 = (x : Int)) (ey : (ah : Int) % 256 = (y : Int)) (eb : (base : Int) % 256 = (b : Int)) (hx : x < 256) (hy : y < 256) (hb : b < 256) (hX : X < 256) (hY : Y < 256) (h9 : ((9 : Int) < (x : Int) % 16) = False) 
    (HA : ∀ w, Calls Try.prog 30 #[.int .u32 fl, .int .u32 16] w fun e w' => e = .returned (.bool true) ∧ w = w') 
    (S1 : ∀ w, Calls Try.prog 27 #[.int .u32 fl, .int .u32 1, .bool true] w fun e w' => e = .returned (.int .u32 f1) ∧ w = w') 
    (S2 : ∀ w, Calls Try.prog 27 #[.int .u32 f1, .int .u32 16, .bool true] w fun e w' => e = .returned (.int .u32 f2) ∧ w = w') 
    (S3 : ∀ w, Calls Try.prog 27 #[.int .u32 f2, .int .u32 2048, .bool false] w fun e w' => e = .returned (.int .u32 f3) ∧ w = w') 
    (BY : ∀ (z : Int), z = (X : Int) → ∀ w, Calls Try.prog 28 #[.int .u64 z, .int .i64 8, .int .u32 f3] w fun e w' => e = .returned (.int .u32 G) ∧ w = w') 
    (qX : X = (x + 250) % 256 % 16) (qY : Y = (y + 255) % 256) (w : World) :
    Calls Try.prog 17 #[.int .i64 3, .int .u32 al, .int .u32 ah, .int .u32 base, .int .u32 fl] w fun e w' => e = .returned (.tuple #[.int .u32 (X : Int), .int .u32 (Y : Int), .int .u32 (G : Int), .bool true, .int .i64 0]) ∧ w = w' := by
  have HHA := hide HA
  have HS1 := hide S1
  have HS2 := hide S2
  have HS3 := hide S3
  have HBY := hide BY
  clear HA S1 S2 S3 BY
  go_enter Try.func17, Try.ntmps17
  go_wp2_with fail
  refine (HHA.out _).mono ?_
  rintro e w' ⟨rfl, rfl⟩
  go_wp2_with fail
  refine (HS1.out _).mono ?_
  rintro e w' ⟨rfl, rfl⟩
  go_wp2_with fail
  refine (HS2.out _).mono ?_
  rintro e w' ⟨rfl, rfl⟩
  go_wp2_with fail
  refine (HS3.out _).mono ?_
  rintro e w' ⟨rfl, rfl⟩
  go_wp2_with fail
  refine (HBY.out _ (by first | rfl | omega) _).mono ?_
  rintro e w' ⟨rfl, rfl⟩
  go_wp2
  refine bodyPost_ret (results_tmp5 rfl _ _ _) rfl ?_
  exact ⟨ret_5 (by first | rfl | omega) (by first | rfl | omega), rfl⟩
set_option maxRecDepth 20000 in
set_option maxHeartbeats 1000000 in
theorem radj3_k (al ah base fl x y b X Y f1 f2 f3 G : Nat) (hal : al < 4294967296) (hah : ah < 4294967296) (hba : base < 4294967296) (hfl : fl < 4294967296)
    (ex : (al : Int) % 256 = (x : Int)) (ey : (ah : Int) % 256 = (y : Int)) (eb : (base : Int) % 256 = (b : Int)) (hx : x < 256) (hy : y < 256) (hb : b < 256) (hX : X < 256) (hY : Y < 256) (h9 : ((9 : Int) < (x : Int) % 16) = False) 
    (HA : ∀ w, Calls Try.prog 30 #[.int .u32 fl, .int .u32 16] w fun e w' => e = .returned (.bool false) ∧ w = w') 
    (S1 : ∀ w, Calls Try.prog 27 #[.int .u32 fl, .int .u32 1, .bool false] w fun e w' => e = .returned (.int .u32 f1) ∧ w = w') 
    (S2 : ∀ w, Calls Try.prog 27 #[.int .u32 f1, .int .u32 16, .bool false] w fun e w' => e = .returned (.int .u32 f2) ∧ w = w') 
    (S3 : ∀ w, Calls Try.prog 27 #[.int .u32 f2, .int .u32 2048, .bool false] w fun e w' => e = .returned (.int .u32 f3) ∧ w = w') 
    (BY : ∀ (z : Int), z = (X : Int) → ∀ w, Calls Try.prog 28 #[.int .u64 z, .int .i64 8, .int .u32 f3] w fun e w' => e = .returned (.int .u32 G) ∧ w = w') 
    (qX : X = x % 16) (qY : Y = y) (w : World) :
    Calls Try.prog 17 #[.int .i64 3, .int .u32 al, .int .u32 ah, .int .u32 base, .int .u32 fl] w fun e w' => e = .returned (.tuple #[.int .u32 (X : Int), .int .u32 (Y : Int), .int .u32 (G : Int), .bool true, .int .i64 0]) ∧ w = w' := by
  have HHA := hide HA
  have HS1 := hide S1
  have HS2 := hide S2
  have HS3 := hide S3
  have HBY := hide BY
  clear HA S1 S2 S3 BY
  go_enter Try.func17, Try.ntmps17
  go_wp2_with fail
  refine (HHA.out _).mono ?_
  rintro e w' ⟨rfl, rfl⟩
  go_wp2_with fail
  refine (HS1.out _).mono ?_
  rintro e w' ⟨rfl, rfl⟩
  go_wp2_with fail
  refine (HS2.out _).mono ?_
  rintro e w' ⟨rfl, rfl⟩
  go_wp2_with fail
  refine (HS3.out _).mono ?_
  rintro e w' ⟨rfl, rfl⟩
  go_wp2_with fail
  refine (HBY.out _ (by first | rfl | omega) _).mono ?_
  rintro e w' ⟨rfl, rfl⟩
  go_wp2
  refine bodyPost_ret (results_tmp5 rfl _ _ _) rfl ?_
  exact ⟨ret_5 (by first | rfl | omega) (by first | rfl | omega), rfl⟩
end Go.Proofs.Ytfjjipkieecpcaa
