/- The program's Mul of size 2. -/
import Derived.Test.YtfjjipkieecpcaaMdMulB
namespace Go.Proofs.Ytfjjipkieecpcaa
open Go.RowKit Pl
set_option linter.unusedVariables false

set_option maxRecDepth 20000 in
set_option maxHeartbeats 2000000 in
theorem mul2_false (a b fl : Nat) (ha : a < 4294967296) (hb : b < 4294967296) (hf : fl < 4294967296) (w : World) :
    Calls Try.prog 12 #[.bool false, .int .i64 2, .int .u32 a, .int .u32 b, .int .u32 fl] w fun e w' => e = .returned (.tuple #[.int .u32 ((mulN false 16 (a % 65536) (b % 65536) % 65536 : Nat) : Int), .int .u32 ((mulN false 16 (a % 65536) (b % 65536) / 65536 : Nat) : Int), .int .u32 ((mulF false 16 (a % 65536) (b % 65536) fl : Nat) : Int), .int .i64 0]) ∧ Below w.heap.size w w' := by
  have V1 : ∀ w, Calls Try.prog 19 #[.int .u64 16, .int .u64 (a : Int)] w fun e w' => e = .returned (.int .u64 ((a % 65536 : Nat) : Int)) ∧ w = w' := fun w => mdvalue_ok 16 a (by omega) (by omega) (by omega) w
  have V2 : ∀ w, Calls Try.prog 19 #[.int .u64 16, .int .u64 (b : Int)] w fun e w' => e = .returned (.int .u64 ((b % 65536 : Nat) : Int)) ∧ w = w' := fun w => mdvalue_ok 16 b (by omega) (by omega) (by omega) w
  have V3 : ∀ (z : Nat), z < 18446744073709551616 → ∀ w, Calls Try.prog 19 #[.int .u64 16, .int .u64 (z : Int)] w fun e w' => e = .returned (.int .u64 ((z % 65536 : Nat) : Int)) ∧ w = w' := fun z hz w => mdvalue_ok 16 z (by omega) (by omega) (by omega) w
  have S1 : ∀ w, Calls Try.prog 33 #[.int .u32 (a : Int)] w fun e w' => e = .returned (.int .i64 (sZ (a % 65536) 16)) ∧ w = w' := fun w => wide16_ok a (by omega) w
  have S2 : ∀ w, Calls Try.prog 33 #[.int .u32 (b : Int)] w fun e w' => e = .returned (.int .i64 (sZ (b % 65536) 16)) ∧ w = w' := fun w => wide16_ok b (by omega) w
  have hx : a % 65536 < 65536 := Nat.mod_lt _ (by decide)
  have hy : b % 65536 < 65536 := Nat.mod_lt _ (by decide)
  generalize a % 65536 = x at *
  generalize b % 65536 = y at *
  have hN := mulN_lt false 16 x y hx hy
  have eF : mulF false 16 x y fl = byF (mulN false 16 x y % 65536) 16 (setF (setF (setF fl 1 (mulO false 16 x y)) 2048 (mulO false 16 x y)) 16 false) := rfl
  rw [eF, ← asmM fl _ hf]
  clear eF
  have m1 := mask_int fl hf
  have m2 := over_int fl hf
  have l0 : fl &&& (4294967295 - 2065) < 2 ^ 32 := Nat.and_lt_two_pow _ (by decide)
  have l1 : (fl &&& (4294967295 - 2065)) ||| 2049 < 2 ^ 32 := Nat.or_lt_two_pow l0 (by decide)
  have AF : ∀ (lo g : Nat), lo < 65536 → g < 2 ^ 32 → ∀ w, Calls Try.prog 20 #[.int .i64 2, .int .u32 lo, .int .u32 g] w fun e w' => e = .returned (.tuple #[.int .u32 ((byF lo 16 g : Nat) : Int), .int .i64 0]) ∧ w = w' := by
    intro lo g hlo hg w
    have h := flags_ok 2 (by decide) lo g (by omega) hg w
    simp only [Int.reduceToNat, Nat.reduceMul] at h
    rw [Nat.mod_eq_of_lt hlo] at h
    exact h
  have LK := hide (sign_at w).2.1
  generalize fl &&& (4294967295 - 2065) = g0 at *
  generalize g0 ||| 2049 = g1 at *
  have eN : IntKind.u64.wrap ((x : Int) * (y : Int)) = ((x * y : Nat) : Int) := by
    have e : (x : Int) * (y : Int) = ((x * y : Nat) : Int) := by simp
    rw [e]
    exact wrap_lt _ (Nat.lt_of_lt_of_le (umul_lt x y 16 hx hy) (by decide))
  have eO : mulO false 16 x y = (mulN false 16 x y / 65536 != 0) := rfl
  have eX : x * y = mulN false 16 x y := rfl
  rw [eX] at eN
  rw [eO]
  clear eO eX
  generalize mulN false 16 x y = N at *
  simp only [Nat.reduceMul, Nat.reducePow] at hN
  have hlo : N % 65536 < 65536 := Nat.mod_lt _ (by decide)
  have hhi : N / 65536 < 65536 := by omega
  have V3' : ∀ w, Calls Try.prog 19 #[.int .u64 16, .int .u64 (N : Int)] w fun e w' => e = .returned (.int .u64 ((N % 65536 : Nat) : Int)) ∧ w = w' := V3 N (by omega)
  have V4 : ∀ (z : Int), z = ((N / 65536 : Nat) : Int) → ∀ w, Calls Try.prog 19 #[.int .u64 16, .int .u64 z] w fun e w' => e = .returned (.int .u64 ((N / 65536 : Nat) : Int)) ∧ w = w' := by
    intro z hz w
    subst hz
    have h := V3 (N / 65536) (by omega) w
    rw [Nat.mod_eq_of_lt hhi] at h
    exact h
  have HV1 := hide V1
  have HV2 := hide V2
  have HV3 := hide V3'
  have HV4 := hide V4
  have HA0 := hide (AF (N % 65536) g0 hlo l0)
  have HA1 := hide (AF (N % 65536) g1 hlo l1)
  clear V1 V2 V3 V3' V4 S1 S2 AF l0 l1 hf
  rcases (by omega : N / 65536 = 0 ∨ N / 65536 ≠ 0) with ho | ho
  · have ho2 : ((N : Int) / 65536 != 0) = false := by simp; omega
    have ho3 : (N / 65536 != 0) = false := by simp; omega
    rw [ho3]
    clear ho3
    go_enter Try.func12, Try.ntmps12
    go_wp2_with fail
    refine (signs_ok _).mono ?_
    rintro e w' ⟨rfl, rfl⟩
    go_wp2_with fail
    rw [LK.out]
    go_wp2_with fail
    refine (HV1.out _).mono ?_
    rintro e w' ⟨rfl, rfl⟩
    go_wp2_with fail
    refine (HV2.out _).mono ?_
    rintro e w' ⟨rfl, rfl⟩
    go_wp2_with fail
    refine (HV3.out _).mono ?_
    rintro e w' ⟨rfl, rfl⟩
    go_wp2_with fail
    refine (HV4.out _ (by omega) _).mono ?_
    rintro e w' ⟨rfl, rfl⟩
    go_wp2_with fail
    refine (HA0.out _).mono ?_
    rintro e w' ⟨rfl, rfl⟩
    go_wp2
    refine bodyPost_ret (results_tmp4 rfl _ _ _) rfl ?_
    exact ⟨ret_iiii rfl rfl rfl rfl, (Below.refl _ _).alloc (Nat.le_refl _) _⟩
  · have ho2 : ((N : Int) / 65536 != 0) = true := by simp; omega
    have ho3 : (N / 65536 != 0) = true := by simp; omega
    rw [ho3]
    clear ho3
    go_enter Try.func12, Try.ntmps12
    go_wp2_with fail
    refine (signs_ok _).mono ?_
    rintro e w' ⟨rfl, rfl⟩
    go_wp2_with fail
    rw [LK.out]
    go_wp2_with fail
    refine (HV1.out _).mono ?_
    rintro e w' ⟨rfl, rfl⟩
    go_wp2_with fail
    refine (HV2.out _).mono ?_
    rintro e w' ⟨rfl, rfl⟩
    go_wp2_with fail
    refine (HV3.out _).mono ?_
    rintro e w' ⟨rfl, rfl⟩
    go_wp2_with fail
    refine (HV4.out _ (by omega) _).mono ?_
    rintro e w' ⟨rfl, rfl⟩
    go_wp2_with fail
    refine (HA1.out _).mono ?_
    rintro e w' ⟨rfl, rfl⟩
    go_wp2
    refine bodyPost_ret (results_tmp4 rfl _ _ _) rfl ?_
    exact ⟨ret_iiii rfl rfl rfl rfl, (Below.refl _ _).alloc (Nat.le_refl _) _⟩

set_option maxRecDepth 20000 in
set_option maxHeartbeats 2000000 in
theorem mul2_true (a b fl : Nat) (ha : a < 4294967296) (hb : b < 4294967296) (hf : fl < 4294967296) (w : World) :
    Calls Try.prog 12 #[.bool true, .int .i64 2, .int .u32 a, .int .u32 b, .int .u32 fl] w fun e w' => e = .returned (.tuple #[.int .u32 ((mulN true 16 (a % 65536) (b % 65536) % 65536 : Nat) : Int), .int .u32 ((mulN true 16 (a % 65536) (b % 65536) / 65536 : Nat) : Int), .int .u32 ((mulF true 16 (a % 65536) (b % 65536) fl : Nat) : Int), .int .i64 0]) ∧ Below w.heap.size w w' := by
  have V1 : ∀ w, Calls Try.prog 19 #[.int .u64 16, .int .u64 (a : Int)] w fun e w' => e = .returned (.int .u64 ((a % 65536 : Nat) : Int)) ∧ w = w' := fun w => mdvalue_ok 16 a (by omega) (by omega) (by omega) w
  have V2 : ∀ w, Calls Try.prog 19 #[.int .u64 16, .int .u64 (b : Int)] w fun e w' => e = .returned (.int .u64 ((b % 65536 : Nat) : Int)) ∧ w = w' := fun w => mdvalue_ok 16 b (by omega) (by omega) (by omega) w
  have V3 : ∀ (z : Nat), z < 18446744073709551616 → ∀ w, Calls Try.prog 19 #[.int .u64 16, .int .u64 (z : Int)] w fun e w' => e = .returned (.int .u64 ((z % 65536 : Nat) : Int)) ∧ w = w' := fun z hz w => mdvalue_ok 16 z (by omega) (by omega) (by omega) w
  have S1 : ∀ w, Calls Try.prog 33 #[.int .u32 (a : Int)] w fun e w' => e = .returned (.int .i64 (sZ (a % 65536) 16)) ∧ w = w' := fun w => wide16_ok a (by omega) w
  have S2 : ∀ w, Calls Try.prog 33 #[.int .u32 (b : Int)] w fun e w' => e = .returned (.int .i64 (sZ (b % 65536) 16)) ∧ w = w' := fun w => wide16_ok b (by omega) w
  have hx : a % 65536 < 65536 := Nat.mod_lt _ (by decide)
  have hy : b % 65536 < 65536 := Nat.mod_lt _ (by decide)
  generalize a % 65536 = x at *
  generalize b % 65536 = y at *
  have hN := mulN_lt true 16 x y hx hy
  have eF : mulF true 16 x y fl = byF (mulN true 16 x y % 65536) 16 (setF (setF (setF fl 1 (mulO true 16 x y)) 2048 (mulO true 16 x y)) 16 false) := rfl
  rw [eF, ← asmM fl _ hf]
  clear eF
  have m1 := mask_int fl hf
  have m2 := over_int fl hf
  have l0 : fl &&& (4294967295 - 2065) < 2 ^ 32 := Nat.and_lt_two_pow _ (by decide)
  have l1 : (fl &&& (4294967295 - 2065)) ||| 2049 < 2 ^ 32 := Nat.or_lt_two_pow l0 (by decide)
  have AF : ∀ (lo g : Nat), lo < 65536 → g < 2 ^ 32 → ∀ w, Calls Try.prog 20 #[.int .i64 2, .int .u32 lo, .int .u32 g] w fun e w' => e = .returned (.tuple #[.int .u32 ((byF lo 16 g : Nat) : Int), .int .i64 0]) ∧ w = w' := by
    intro lo g hlo hg w
    have h := flags_ok 2 (by decide) lo g (by omega) hg w
    simp only [Int.reduceToNat, Nat.reduceMul] at h
    rw [Nat.mod_eq_of_lt hlo] at h
    exact h
  have LK := hide (sign_at w).2.1
  generalize fl &&& (4294967295 - 2065) = g0 at *
  generalize g0 ||| 2049 = g1 at *
  have eN : IntKind.u64.wrap ((x : Int) * (y : Int)) = ((x * y : Nat) : Int) := by
    have e : (x : Int) * (y : Int) = ((x * y : Nat) : Int) := by simp
    rw [e]
    exact wrap_lt _ (Nat.lt_of_lt_of_le (umul_lt x y 16 hx hy) (by decide))
  have hp := smul_range x y 16 (by unfold wB; omega) hx hy
  have eX : mulN true 16 x y = (sZ x 16 * sZ y 16 % 2 ^ (2 * 16)).toNat := rfl
  have eO : mulO true 16 x y = ((sZ x 16 * sZ y 16 % 2 ^ (2 * 16)).toNat / 2 ^ 16 != (if sgn ((sZ x 16 * sZ y 16 % 2 ^ (2 * 16)).toNat % 2 ^ 16) 16 then 2 ^ 16 - 1 else 0)) := rfl
  obtain ⟨M, hM, hMl, eM⟩ := wrap_u64 (sZ x 16 * sZ y 16)
  have hs := smul_prog 16 (sZ x 16 * sZ y 16) M (by unfold wB; omega) hp.1 hp.2 eM
  rw [← eO, ← eX] at hs
  obtain ⟨s1, s2, s3⟩ := hs
  have eP : wrap64 (sZ x 16 * sZ y 16) = sZ x 16 * sZ y 16 := wrap64_in _ (Int.le_trans (by decide) hp.1) (Int.le_trans hp.2 (by decide))
  have eU := wrap_low M
  have S3 : ∀ (z : Int), z = ((M % 4294967296 : Nat) : Int) → ∀ w, Calls Try.prog 33 #[.int .u32 z] w fun e w' => e = .returned (.int .i64 (sZ (M % 65536) 16)) ∧ w = w' := by
    intro z hz w
    have h := wide16_ok z (by omega) w
    rw [show z.toNat % 65536 = M % 65536 by omega] at h
    exact h
  have V3' : ∀ w, Calls Try.prog 19 #[.int .u64 16, .int .u64 (M : Int)] w fun e w' => e = .returned (.int .u64 ((mulN true 16 x y % 65536 : Nat) : Int)) ∧ w = w' := by
    intro w
    have h := V3 M hMl w
    rw [show M % 65536 = mulN true 16 x y % 65536 from s1] at h
    exact h
  have V4 : ∀ (z : Int), z = ((M / 65536 : Nat) : Int) → ∀ w, Calls Try.prog 19 #[.int .u64 16, .int .u64 z] w fun e w' => e = .returned (.int .u64 ((mulN true 16 x y / 65536 : Nat) : Int)) ∧ w = w' := by
    intro z hz w
    subst hz
    have h := V3 (M / 65536) (by omega) w
    rw [show M / 65536 % 65536 = mulN true 16 x y / 65536 from s2] at h
    exact h
  clear eX eO s1 s2 eM
  simp only [Nat.reduceMul, Nat.reducePow] at hN
  generalize mulN true 16 x y = N at *
  have hlo : N % 65536 < 65536 := Nat.mod_lt _ (by decide)
  have hhi : N / 65536 < 65536 := by omega
  rw [show (2 : Nat) ^ 16 = 65536 from rfl] at s3
  generalize sZ (M % 65536) 16 = sm at *
  generalize sZ x 16 = sx at *
  generalize sZ y 16 = sy at *
  generalize hsp : sx * sy = p at *
  generalize mulO true 16 x y = o at *
  have HV1 := hide V1
  have HV2 := hide V2
  have HV3 := hide V3'
  have HV4 := hide V4
  have HS1 := hide S1
  have HS2 := hide S2
  have HS3 := hide S3
  have HA0 := hide (AF (N % 65536) g0 hlo l0)
  have HA1 := hide (AF (N % 65536) g1 hlo l1)
  clear V1 V2 V3 V3' V4 S1 S2 S3 AF l0 l1 hf hp
  generalize x * y = N0 at *
  cases o
  · skip
    go_enter Try.func12, Try.ntmps12
    go_wp2_with fail
    refine (signs_ok _).mono ?_
    rintro e w' ⟨rfl, rfl⟩
    go_wp2_with fail
    rw [LK.out]
    go_wp2_with fail
    refine (HV1.out _).mono ?_
    rintro e w' ⟨rfl, rfl⟩
    go_wp2_with fail
    refine (HV2.out _).mono ?_
    rintro e w' ⟨rfl, rfl⟩
    go_wp2_with fail
    refine (HS1.out _).mono ?_
    rintro e w' ⟨rfl, rfl⟩
    go_wp2_with fail
    refine (HS2.out _).mono ?_
    rintro e w' ⟨rfl, rfl⟩
    go_wp2_with fail
    refine (HS3.out _ (by omega) _).mono ?_
    rintro e w' ⟨rfl, rfl⟩
    go_wp2_with fail
    refine (HV3.out _).mono ?_
    rintro e w' ⟨rfl, rfl⟩
    go_wp2_with fail
    refine (HV4.out _ (by omega) _).mono ?_
    rintro e w' ⟨rfl, rfl⟩
    go_wp2_with fail
    refine (HA0.out _).mono ?_
    rintro e w' ⟨rfl, rfl⟩
    go_wp2
    refine bodyPost_ret (results_tmp4 rfl _ _ _) rfl ?_
    exact ⟨ret_iiii rfl rfl rfl rfl, (Below.refl _ _).alloc (Nat.le_refl _) _⟩
  · skip
    go_enter Try.func12, Try.ntmps12
    go_wp2_with fail
    refine (signs_ok _).mono ?_
    rintro e w' ⟨rfl, rfl⟩
    go_wp2_with fail
    rw [LK.out]
    go_wp2_with fail
    refine (HV1.out _).mono ?_
    rintro e w' ⟨rfl, rfl⟩
    go_wp2_with fail
    refine (HV2.out _).mono ?_
    rintro e w' ⟨rfl, rfl⟩
    go_wp2_with fail
    refine (HS1.out _).mono ?_
    rintro e w' ⟨rfl, rfl⟩
    go_wp2_with fail
    refine (HS2.out _).mono ?_
    rintro e w' ⟨rfl, rfl⟩
    go_wp2_with fail
    refine (HS3.out _ (by omega) _).mono ?_
    rintro e w' ⟨rfl, rfl⟩
    go_wp2_with fail
    refine (HV3.out _).mono ?_
    rintro e w' ⟨rfl, rfl⟩
    go_wp2_with fail
    refine (HV4.out _ (by omega) _).mono ?_
    rintro e w' ⟨rfl, rfl⟩
    go_wp2_with fail
    refine (HA1.out _).mono ?_
    rintro e w' ⟨rfl, rfl⟩
    go_wp2
    refine bodyPost_ret (results_tmp4 rfl _ _ _) rfl ?_
    exact ⟨ret_iiii rfl rfl rfl rfl, (Below.refl _ _).alloc (Nat.le_refl _) _⟩

end Go.Proofs.Ytfjjipkieecpcaa
