/- The document's Mul of size 4. -/
import Derived.Test.YtfjjipkieecpcaaMdRef
namespace Go.Proofs.Ytfjjipkieecpcaa
open Go.RowKit Pl
set_option linter.unusedVariables false

set_option maxRecDepth 20000 in
set_option maxHeartbeats 2000000 in
theorem refmul4_false (a b fl : Nat) (ha : a < 4294967296) (hb : b < 4294967296) (hf : fl < 4294967296) (w : World) :
    Calls Try.prog 13 #[.bool false, .int .i64 4, .int .u32 a, .int .u32 b, .int .u32 fl] w fun e w' => e = .returned (.tuple #[.int .u32 ((mulN false 32 (a % 4294967296) (b % 4294967296) % 4294967296 : Nat) : Int), .int .u32 ((mulN false 32 (a % 4294967296) (b % 4294967296) / 4294967296 : Nat) : Int), .int .u32 ((mulF false 32 (a % 4294967296) (b % 4294967296) fl : Nat) : Int), .int .i64 0]) ∧ w = w' := by
  have V1 : ∀ w, Calls Try.prog 22 #[.int .u64 (a : Int), .int .i64 32] w fun e w' => e = .returned (.int .u64 ((a % 4294967296 : Nat) : Int)) ∧ w = w' := fun w => cut_ok a 32 (by omega) (by decide) w
  have V2 : ∀ w, Calls Try.prog 22 #[.int .u64 (b : Int), .int .i64 32] w fun e w' => e = .returned (.int .u64 ((b % 4294967296 : Nat) : Int)) ∧ w = w' := fun w => cut_ok b 32 (by omega) (by decide) w
  have hx : a % 4294967296 < 4294967296 := Nat.mod_lt _ (by decide)
  have hy : b % 4294967296 < 4294967296 := Nat.mod_lt _ (by decide)
  generalize a % 4294967296 = x at *
  generalize b % 4294967296 = y at *
  have hN : mulN false 32 x y < 18446744073709551616 := mulN_lt false 32 x y hx hy
  have eN0 : IntKind.u64.wrap ((x : Int) * (y : Int)) = ((x * y : Nat) : Int) := by
    have e : (x : Int) * (y : Int) = ((x * y : Nat) : Int) := by simp
    rw [e]
    show ((x * y : Nat) : Int) % 18446744073709551616 = _
    have := Nat.lt_of_lt_of_le (umul_lt x y 32 hx hy) (show 2 ^ (2 * 32) ≤ 18446744073709551616 by decide)
    omega
  have eF : mulF false 32 x y fl = byF (mulN false 32 x y % 4294967296) 32 (setF (setF (setF fl 1 (mulO false 32 x y)) 2048 (mulO false 32 x y)) 16 false) := rfl
  rw [eF]
  clear eF
  have S1 := hide fun w => set_ok fl 1 (mulO false 32 x y) (by decide) hf w
  have S2 := hide fun w => set_ok (setF fl 1 (mulO false 32 x y)) 2048 (mulO false 32 x y) (by decide) (lt1 _ hf) w
  have S3 := hide fun w => set_ok (setF (setF fl 1 (mulO false 32 x y)) 2048 (mulO false 32 x y)) 16 false (by decide) (lt2048 _ (lt1 _ hf)) w
  have YB : ∀ w, Calls Try.prog 28 #[.int .u64 ((mulN false 32 x y % 4294967296 : Nat) : Int), .int .i64 32, .int .u32 ((setF (setF (setF fl 1 (mulO false 32 x y)) 2048 (mulO false 32 x y)) 16 false : Nat) : Int)] w fun e w' => e = .returned (.int .u32 ((byF (mulN false 32 x y % 4294967296) 32 (setF (setF (setF fl 1 (mulO false 32 x y)) 2048 (mulO false 32 x y)) 16 false) : Nat) : Int)) ∧ w = w' := fun w => by_ok _ _ 32 (by decide) (lt16 _ (lt2048 _ (lt1 _ hf))) w
  simp only [Int.reduceToNat] at S1 S2 S3
  have HH : ∀ w, Calls Try.prog 25 #[.int .u64 ((mulN false 32 x y : Nat) : Int), .int .i64 32] w fun e w' => e = .returned (.tuple #[.int .u64 ((mulN false 32 x y % 4294967296 : Nat) : Int), .int .u64 ((mulN false 32 x y / 4294967296 : Nat) : Int)]) ∧ w = w' := by
    intro w
    have h := halves_ok (mulN false 32 x y) 32 (by decide) w
    rw [show mulN false 32 x y / 2 ^ Int.toNat 32 % 2 ^ Int.toNat 32 = mulN false 32 x y / 4294967296 from Nat.mod_eq_of_lt (by show mulN false 32 x y / 4294967296 < 4294967296; omega)] at h
    exact h
  have eO : (((mulN false 32 x y / 4294967296 : Nat) : Int) != 0) = mulO false 32 x y := by
    show _ = (mulN false 32 x y / 4294967296 != 0)
    rw [Bool.eq_iff_iff]
    simp only [bne_iff_ne]
    omega
  have eX : x * y = mulN false 32 x y := rfl
  rw [eX] at eN0
  clear eX
  generalize mulO false 32 x y = o at *
  generalize mulN false 32 x y = N at *
  have hlo : N % 4294967296 < 4294967296 := Nat.mod_lt _ (by decide)
  have hhi : N / 4294967296 < 4294967296 := by omega
  generalize setF (setF (setF fl 1 o) 2048 o) 16 false = f3 at *
  generalize setF (setF fl 1 o) 2048 o = f2 at *
  generalize setF fl 1 o = f1 at *
  generalize byF (N % 4294967296) 32 f3 = f4 at *
  generalize N % 4294967296 = lo at *
  generalize N / 4294967296 = hi at *
  have H1 := hide V1
  have H2 := hide V2
  have H3 := hide HH
  have H4 := hide YB
  clear V1 V2 HH YB hf hN
  · go_enter Try.func13, Try.ntmps13
    go_wp2_with (go_at_call 21; go_in)
    refine (H1.out _).mono ?_
    rintro e w' ⟨rfl, rfl⟩
    go_wp2_with fail
    refine (H2.out _).mono ?_
    rintro e w' ⟨rfl, rfl⟩
    go_wp2_with fail
    refine (H3.out _).mono ?_
    rintro e w' ⟨rfl, rfl⟩
    go_wp2_with fail
    refine (S1.out _).mono ?_
    rintro e w' ⟨rfl, rfl⟩
    go_wp2_with fail
    refine (S2.out _).mono ?_
    rintro e w' ⟨rfl, rfl⟩
    go_wp2_with fail
    refine (S3.out _).mono ?_
    rintro e w' ⟨rfl, rfl⟩
    go_wp2_with fail
    refine (H4.out _).mono ?_
    rintro e w' ⟨rfl, rfl⟩
    go_wp2
    refine bodyPost_ret (results_tmp4 rfl _ _ _) rfl ?_
    exact ⟨by rfl, rfl⟩

set_option maxRecDepth 20000 in
set_option maxHeartbeats 2000000 in
theorem refmul4_true (a b fl : Nat) (ha : a < 4294967296) (hb : b < 4294967296) (hf : fl < 4294967296) (w : World) :
    Calls Try.prog 13 #[.bool true, .int .i64 4, .int .u32 a, .int .u32 b, .int .u32 fl] w fun e w' => e = .returned (.tuple #[.int .u32 ((mulN true 32 (a % 4294967296) (b % 4294967296) % 4294967296 : Nat) : Int), .int .u32 ((mulN true 32 (a % 4294967296) (b % 4294967296) / 4294967296 : Nat) : Int), .int .u32 ((mulF true 32 (a % 4294967296) (b % 4294967296) fl : Nat) : Int), .int .i64 0]) ∧ w = w' := by
  have V1 : ∀ w, Calls Try.prog 22 #[.int .u64 (a : Int), .int .i64 32] w fun e w' => e = .returned (.int .u64 ((a % 4294967296 : Nat) : Int)) ∧ w = w' := fun w => cut_ok a 32 (by omega) (by decide) w
  have V2 : ∀ w, Calls Try.prog 22 #[.int .u64 (b : Int), .int .i64 32] w fun e w' => e = .returned (.int .u64 ((b % 4294967296 : Nat) : Int)) ∧ w = w' := fun w => cut_ok b 32 (by omega) (by decide) w
  have hx : a % 4294967296 < 4294967296 := Nat.mod_lt _ (by decide)
  have hy : b % 4294967296 < 4294967296 := Nat.mod_lt _ (by decide)
  generalize a % 4294967296 = x at *
  generalize b % 4294967296 = y at *
  have hN : mulN true 32 x y < 18446744073709551616 := mulN_lt true 32 x y hx hy
  have eN0 : IntKind.u64.wrap ((x : Int) * (y : Int)) = ((x * y : Nat) : Int) := by
    have e : (x : Int) * (y : Int) = ((x * y : Nat) : Int) := by simp
    rw [e]
    show ((x * y : Nat) : Int) % 18446744073709551616 = _
    have := Nat.lt_of_lt_of_le (umul_lt x y 32 hx hy) (show 2 ^ (2 * 32) ≤ 18446744073709551616 by decide)
    omega
  have eF : mulF true 32 x y fl = byF (mulN true 32 x y % 4294967296) 32 (setF (setF (setF fl 1 (mulO true 32 x y)) 2048 (mulO true 32 x y)) 16 false) := rfl
  rw [eF]
  clear eF
  have S1 := hide fun w => set_ok fl 1 (mulO true 32 x y) (by decide) hf w
  have S2 := hide fun w => set_ok (setF fl 1 (mulO true 32 x y)) 2048 (mulO true 32 x y) (by decide) (lt1 _ hf) w
  have S3 := hide fun w => set_ok (setF (setF fl 1 (mulO true 32 x y)) 2048 (mulO true 32 x y)) 16 false (by decide) (lt2048 _ (lt1 _ hf)) w
  have YB : ∀ w, Calls Try.prog 28 #[.int .u64 ((mulN true 32 x y % 4294967296 : Nat) : Int), .int .i64 32, .int .u32 ((setF (setF (setF fl 1 (mulO true 32 x y)) 2048 (mulO true 32 x y)) 16 false : Nat) : Int)] w fun e w' => e = .returned (.int .u32 ((byF (mulN true 32 x y % 4294967296) 32 (setF (setF (setF fl 1 (mulO true 32 x y)) 2048 (mulO true 32 x y)) 16 false) : Nat) : Int)) ∧ w = w' := fun w => by_ok _ _ 32 (by decide) (lt16 _ (lt2048 _ (lt1 _ hf))) w
  simp only [Int.reduceToNat] at S1 S2 S3
  have HH : ∀ w, Calls Try.prog 25 #[.int .u64 ((mulN true 32 x y : Nat) : Int), .int .i64 32] w fun e w' => e = .returned (.tuple #[.int .u64 ((mulN true 32 x y % 4294967296 : Nat) : Int), .int .u64 ((mulN true 32 x y / 4294967296 : Nat) : Int)]) ∧ w = w' := by
    intro w
    have h := halves_ok (mulN true 32 x y) 32 (by decide) w
    rw [show mulN true 32 x y / 2 ^ Int.toNat 32 % 2 ^ Int.toNat 32 = mulN true 32 x y / 4294967296 from Nat.mod_eq_of_lt (by show mulN true 32 x y / 4294967296 < 4294967296; omega)] at h
    exact h
  have hr := smul_ref 32 x y (by unfold wB; omega) hx hy
  have hM1 : ∀ w, Calls Try.prog 23 #[.int .u64 (x : Int), .int .i64 32] w fun e w' => e = .returned (.tuple #[.int .u64 ((magN x 32 : Nat) : Int), .bool (sgn x 32)]) ∧ w = w' := fun w => mag_ok x 32 (by decide) hx w
  have hM2 : ∀ w, Calls Try.prog 23 #[.int .u64 (y : Int), .int .i64 32] w fun e w' => e = .returned (.tuple #[.int .u64 ((magN y 32 : Nat) : Int), .bool (sgn y 32)]) ∧ w = w' := fun w => mag_ok y 32 (by decide) hy w
  have eR : IntKind.u64.wrap (((magN x 32 : Nat) : Int) * ((magN y 32 : Nat) : Int)) = ((magN x 32 * magN y 32 : Nat) : Int) := by
    have e : ((magN x 32 : Nat) : Int) * ((magN y 32 : Nat) : Int) = ((magN x 32 * magN y 32 : Nat) : Int) := by simp
    rw [e]
    show ((magN x 32 * magN y 32 : Nat) : Int) % 18446744073709551616 = _
    have := Nat.lt_of_le_of_lt hr.1 (show 2 ^ (2 * 32 - 2) < 18446744073709551616 by decide)
    omega
  have NG : ∀ w, Calls Try.prog 24 #[.int .u64 ((magN x 32 * magN y 32 : Nat) : Int), .int .i64 64] w fun e w' => e = .returned (.int .u64 ((negN (magN x 32 * magN y 32) 64 : Nat) : Int)) ∧ w = w' := fun w => neg_ok _ 64 (by decide) (Nat.le_trans hr.1 (by decide)) (Nat.lt_of_le_of_lt hr.1 (by decide)) w
  have eR2 := hr.2
  have SG : ∀ w, Calls Try.prog 26 #[.int .u64 ((mulN true 32 x y % 4294967296 : Nat) : Int), .int .i64 32] w fun e w' => e = .returned (.bool (sgn (mulN true 32 x y % 4294967296) 32)) ∧ w = w' := fun w => sign_ok _ 32 (by decide) w
  have eO : (((mulN true 32 x y / 4294967296 : Nat) : Int) != (if sgn (mulN true 32 x y % 4294967296) 32 then 4294967295 else 0)) = mulO true 32 x y := by
    show _ = (mulN true 32 x y / 4294967296 != (if sgn (mulN true 32 x y % 4294967296) 32 then 4294967296 - 1 else 0))
    rw [Bool.eq_iff_iff]
    simp only [bne_iff_ne]
    split <;> omega
  generalize mulO true 32 x y = o at *
  generalize mulN true 32 x y = N at *
  have hlo : N % 4294967296 < 4294967296 := Nat.mod_lt _ (by decide)
  have hhi : N / 4294967296 < 4294967296 := by omega
  generalize setF (setF (setF fl 1 o) 2048 o) 16 false = f3 at *
  generalize setF (setF fl 1 o) 2048 o = f2 at *
  generalize setF fl 1 o = f1 at *
  generalize byF (N % 4294967296) 32 f3 = f4 at *
  generalize sgn (N % 4294967296) 32 = u at *
  generalize N % 4294967296 = lo at *
  generalize N / 4294967296 = hi at *
  generalize magN x 32 * magN y 32 = R at *
  generalize magN x 32 = P at *
  generalize magN y 32 = Q at *
  generalize sgn x 32 = s at *
  generalize sgn y 32 = t at *
  rw [show 2 * 32 = 64 from rfl] at eR2
  generalize negN R 64 = NR at *
  generalize x * y = N0 at *
  have H1 := hide V1
  have H2 := hide V2
  have H3 := hide HH
  have H4 := hide YB
  have HM1 := hide hM1
  have HM2 := hide hM2
  have HNG := hide NG
  have HSG := hide SG
  clear V1 V2 HH YB hM1 hM2 NG SG hf hN hr
  cases s <;> cases t
  · replace eR2 : N = R := eR2
    subst eR2
    cases u
    · replace eO : ((hi : Int) != 0) = o := eO
      go_enter Try.func13, Try.ntmps13
      go_wp2_with (go_at_call 21; go_in)
      refine (H1.out _).mono ?_
      rintro e w' ⟨rfl, rfl⟩
      go_wp2_with fail
      refine (H2.out _).mono ?_
      rintro e w' ⟨rfl, rfl⟩
      go_wp2_with fail
      refine (HM1.out _).mono ?_
      rintro e w' ⟨rfl, rfl⟩
      go_wp2_with fail
      refine (HM2.out _).mono ?_
      rintro e w' ⟨rfl, rfl⟩
      go_wp2_with fail
      refine (H3.out _).mono ?_
      rintro e w' ⟨rfl, rfl⟩
      go_wp2_with fail
      refine (HSG.out _).mono ?_
      rintro e w' ⟨rfl, rfl⟩
      go_wp2_with fail
      refine (S1.out _).mono ?_
      rintro e w' ⟨rfl, rfl⟩
      go_wp2_with fail
      refine (S2.out _).mono ?_
      rintro e w' ⟨rfl, rfl⟩
      go_wp2_with fail
      refine (S3.out _).mono ?_
      rintro e w' ⟨rfl, rfl⟩
      go_wp2_with fail
      refine (H4.out _).mono ?_
      rintro e w' ⟨rfl, rfl⟩
      go_wp2
      refine bodyPost_ret (results_tmp4 rfl _ _ _) rfl ?_
      exact ⟨by rfl, rfl⟩
    · replace eO : ((hi : Int) != 4294967295) = o := eO
      go_enter Try.func13, Try.ntmps13
      go_wp2_with (go_at_call 21; go_in)
      refine (H1.out _).mono ?_
      rintro e w' ⟨rfl, rfl⟩
      go_wp2_with fail
      refine (H2.out _).mono ?_
      rintro e w' ⟨rfl, rfl⟩
      go_wp2_with fail
      refine (HM1.out _).mono ?_
      rintro e w' ⟨rfl, rfl⟩
      go_wp2_with fail
      refine (HM2.out _).mono ?_
      rintro e w' ⟨rfl, rfl⟩
      go_wp2_with fail
      refine (H3.out _).mono ?_
      rintro e w' ⟨rfl, rfl⟩
      go_wp2_with fail
      refine (HSG.out _).mono ?_
      rintro e w' ⟨rfl, rfl⟩
      go_wp2_with fail
      refine (S1.out _).mono ?_
      rintro e w' ⟨rfl, rfl⟩
      go_wp2_with fail
      refine (S2.out _).mono ?_
      rintro e w' ⟨rfl, rfl⟩
      go_wp2_with fail
      refine (S3.out _).mono ?_
      rintro e w' ⟨rfl, rfl⟩
      go_wp2_with fail
      refine (H4.out _).mono ?_
      rintro e w' ⟨rfl, rfl⟩
      go_wp2
      refine bodyPost_ret (results_tmp4 rfl _ _ _) rfl ?_
      exact ⟨by rfl, rfl⟩
  · replace eR2 : N = NR := eR2
    subst eR2
    cases u
    · replace eO : ((hi : Int) != 0) = o := eO
      go_enter Try.func13, Try.ntmps13
      go_wp2_with (go_at_call 21; go_in)
      refine (H1.out _).mono ?_
      rintro e w' ⟨rfl, rfl⟩
      go_wp2_with fail
      refine (H2.out _).mono ?_
      rintro e w' ⟨rfl, rfl⟩
      go_wp2_with fail
      refine (HM1.out _).mono ?_
      rintro e w' ⟨rfl, rfl⟩
      go_wp2_with fail
      refine (HM2.out _).mono ?_
      rintro e w' ⟨rfl, rfl⟩
      go_wp2_with fail
      refine (HNG.out _).mono ?_
      rintro e w' ⟨rfl, rfl⟩
      go_wp2_with fail
      refine (H3.out _).mono ?_
      rintro e w' ⟨rfl, rfl⟩
      go_wp2_with fail
      refine (HSG.out _).mono ?_
      rintro e w' ⟨rfl, rfl⟩
      go_wp2_with fail
      refine (S1.out _).mono ?_
      rintro e w' ⟨rfl, rfl⟩
      go_wp2_with fail
      refine (S2.out _).mono ?_
      rintro e w' ⟨rfl, rfl⟩
      go_wp2_with fail
      refine (S3.out _).mono ?_
      rintro e w' ⟨rfl, rfl⟩
      go_wp2_with fail
      refine (H4.out _).mono ?_
      rintro e w' ⟨rfl, rfl⟩
      go_wp2
      refine bodyPost_ret (results_tmp4 rfl _ _ _) rfl ?_
      exact ⟨by rfl, rfl⟩
    · replace eO : ((hi : Int) != 4294967295) = o := eO
      go_enter Try.func13, Try.ntmps13
      go_wp2_with (go_at_call 21; go_in)
      refine (H1.out _).mono ?_
      rintro e w' ⟨rfl, rfl⟩
      go_wp2_with fail
      refine (H2.out _).mono ?_
      rintro e w' ⟨rfl, rfl⟩
      go_wp2_with fail
      refine (HM1.out _).mono ?_
      rintro e w' ⟨rfl, rfl⟩
      go_wp2_with fail
      refine (HM2.out _).mono ?_
      rintro e w' ⟨rfl, rfl⟩
      go_wp2_with fail
      refine (HNG.out _).mono ?_
      rintro e w' ⟨rfl, rfl⟩
      go_wp2_with fail
      refine (H3.out _).mono ?_
      rintro e w' ⟨rfl, rfl⟩
      go_wp2_with fail
      refine (HSG.out _).mono ?_
      rintro e w' ⟨rfl, rfl⟩
      go_wp2_with fail
      refine (S1.out _).mono ?_
      rintro e w' ⟨rfl, rfl⟩
      go_wp2_with fail
      refine (S2.out _).mono ?_
      rintro e w' ⟨rfl, rfl⟩
      go_wp2_with fail
      refine (S3.out _).mono ?_
      rintro e w' ⟨rfl, rfl⟩
      go_wp2_with fail
      refine (H4.out _).mono ?_
      rintro e w' ⟨rfl, rfl⟩
      go_wp2
      refine bodyPost_ret (results_tmp4 rfl _ _ _) rfl ?_
      exact ⟨by rfl, rfl⟩
  · replace eR2 : N = NR := eR2
    subst eR2
    cases u
    · replace eO : ((hi : Int) != 0) = o := eO
      go_enter Try.func13, Try.ntmps13
      go_wp2_with (go_at_call 21; go_in)
      refine (H1.out _).mono ?_
      rintro e w' ⟨rfl, rfl⟩
      go_wp2_with fail
      refine (H2.out _).mono ?_
      rintro e w' ⟨rfl, rfl⟩
      go_wp2_with fail
      refine (HM1.out _).mono ?_
      rintro e w' ⟨rfl, rfl⟩
      go_wp2_with fail
      refine (HM2.out _).mono ?_
      rintro e w' ⟨rfl, rfl⟩
      go_wp2_with fail
      refine (HNG.out _).mono ?_
      rintro e w' ⟨rfl, rfl⟩
      go_wp2_with fail
      refine (H3.out _).mono ?_
      rintro e w' ⟨rfl, rfl⟩
      go_wp2_with fail
      refine (HSG.out _).mono ?_
      rintro e w' ⟨rfl, rfl⟩
      go_wp2_with fail
      refine (S1.out _).mono ?_
      rintro e w' ⟨rfl, rfl⟩
      go_wp2_with fail
      refine (S2.out _).mono ?_
      rintro e w' ⟨rfl, rfl⟩
      go_wp2_with fail
      refine (S3.out _).mono ?_
      rintro e w' ⟨rfl, rfl⟩
      go_wp2_with fail
      refine (H4.out _).mono ?_
      rintro e w' ⟨rfl, rfl⟩
      go_wp2
      refine bodyPost_ret (results_tmp4 rfl _ _ _) rfl ?_
      exact ⟨by rfl, rfl⟩
    · replace eO : ((hi : Int) != 4294967295) = o := eO
      go_enter Try.func13, Try.ntmps13
      go_wp2_with (go_at_call 21; go_in)
      refine (H1.out _).mono ?_
      rintro e w' ⟨rfl, rfl⟩
      go_wp2_with fail
      refine (H2.out _).mono ?_
      rintro e w' ⟨rfl, rfl⟩
      go_wp2_with fail
      refine (HM1.out _).mono ?_
      rintro e w' ⟨rfl, rfl⟩
      go_wp2_with fail
      refine (HM2.out _).mono ?_
      rintro e w' ⟨rfl, rfl⟩
      go_wp2_with fail
      refine (HNG.out _).mono ?_
      rintro e w' ⟨rfl, rfl⟩
      go_wp2_with fail
      refine (H3.out _).mono ?_
      rintro e w' ⟨rfl, rfl⟩
      go_wp2_with fail
      refine (HSG.out _).mono ?_
      rintro e w' ⟨rfl, rfl⟩
      go_wp2_with fail
      refine (S1.out _).mono ?_
      rintro e w' ⟨rfl, rfl⟩
      go_wp2_with fail
      refine (S2.out _).mono ?_
      rintro e w' ⟨rfl, rfl⟩
      go_wp2_with fail
      refine (S3.out _).mono ?_
      rintro e w' ⟨rfl, rfl⟩
      go_wp2_with fail
      refine (H4.out _).mono ?_
      rintro e w' ⟨rfl, rfl⟩
      go_wp2
      refine bodyPost_ret (results_tmp4 rfl _ _ _) rfl ?_
      exact ⟨by rfl, rfl⟩
  · replace eR2 : N = R := eR2
    subst eR2
    cases u
    · replace eO : ((hi : Int) != 0) = o := eO
      go_enter Try.func13, Try.ntmps13
      go_wp2_with (go_at_call 21; go_in)
      refine (H1.out _).mono ?_
      rintro e w' ⟨rfl, rfl⟩
      go_wp2_with fail
      refine (H2.out _).mono ?_
      rintro e w' ⟨rfl, rfl⟩
      go_wp2_with fail
      refine (HM1.out _).mono ?_
      rintro e w' ⟨rfl, rfl⟩
      go_wp2_with fail
      refine (HM2.out _).mono ?_
      rintro e w' ⟨rfl, rfl⟩
      go_wp2_with fail
      refine (H3.out _).mono ?_
      rintro e w' ⟨rfl, rfl⟩
      go_wp2_with fail
      refine (HSG.out _).mono ?_
      rintro e w' ⟨rfl, rfl⟩
      go_wp2_with fail
      refine (S1.out _).mono ?_
      rintro e w' ⟨rfl, rfl⟩
      go_wp2_with fail
      refine (S2.out _).mono ?_
      rintro e w' ⟨rfl, rfl⟩
      go_wp2_with fail
      refine (S3.out _).mono ?_
      rintro e w' ⟨rfl, rfl⟩
      go_wp2_with fail
      refine (H4.out _).mono ?_
      rintro e w' ⟨rfl, rfl⟩
      go_wp2
      refine bodyPost_ret (results_tmp4 rfl _ _ _) rfl ?_
      exact ⟨by rfl, rfl⟩
    · replace eO : ((hi : Int) != 4294967295) = o := eO
      go_enter Try.func13, Try.ntmps13
      go_wp2_with (go_at_call 21; go_in)
      refine (H1.out _).mono ?_
      rintro e w' ⟨rfl, rfl⟩
      go_wp2_with fail
      refine (H2.out _).mono ?_
      rintro e w' ⟨rfl, rfl⟩
      go_wp2_with fail
      refine (HM1.out _).mono ?_
      rintro e w' ⟨rfl, rfl⟩
      go_wp2_with fail
      refine (HM2.out _).mono ?_
      rintro e w' ⟨rfl, rfl⟩
      go_wp2_with fail
      refine (H3.out _).mono ?_
      rintro e w' ⟨rfl, rfl⟩
      go_wp2_with fail
      refine (HSG.out _).mono ?_
      rintro e w' ⟨rfl, rfl⟩
      go_wp2_with fail
      refine (S1.out _).mono ?_
      rintro e w' ⟨rfl, rfl⟩
      go_wp2_with fail
      refine (S2.out _).mono ?_
      rintro e w' ⟨rfl, rfl⟩
      go_wp2_with fail
      refine (S3.out _).mono ?_
      rintro e w' ⟨rfl, rfl⟩
      go_wp2_with fail
      refine (H4.out _).mono ?_
      rintro e w' ⟨rfl, rfl⟩
      go_wp2
      refine bodyPost_ret (results_tmp4 rfl _ _ _) rfl ?_
      exact ⟨by rfl, rfl⟩

end Go.Proofs.Ytfjjipkieecpcaa
