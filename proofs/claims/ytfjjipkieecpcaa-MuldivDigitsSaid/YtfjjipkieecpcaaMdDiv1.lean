/- The program's Div of size 1. -/
import Derived.Test.YtfjjipkieecpcaaMdDivB
namespace Go.Proofs.Ytfjjipkieecpcaa
open Go.RowKit Pl
set_option linter.unusedVariables false

set_option maxRecDepth 20000 in
set_option maxHeartbeats 1000000 in
theorem div1_false (l h d : Nat) (hl : l < 4294967296) (hh : h < 4294967296) (hd : d < 4294967296) (w : World) :
    Calls Try.prog 14 #[.bool false, .int .i64 1, .int .u32 l, .int .u32 h, .int .u32 d] w fun e w' => DivE false 8 (h % 256 * 256 + l % 256) (d % 256) e ∧ Below w.heap.size w w' := by
  have V1 : ∀ w, Calls Try.prog 19 #[.int .u64 8, .int .u64 (h : Int)] w fun e w' => e = .returned (.int .u64 ((h % 256 : Nat) : Int)) ∧ w = w' := fun w => mdvalue_ok 8 h (by omega) (by omega) (by omega) w
  have V2 : ∀ w, Calls Try.prog 19 #[.int .u64 8, .int .u64 (l : Int)] w fun e w' => e = .returned (.int .u64 ((l % 256 : Nat) : Int)) ∧ w = w' := fun w => mdvalue_ok 8 l (by omega) (by omega) (by omega) w
  have V3 : ∀ w, Calls Try.prog 19 #[.int .u64 8, .int .u64 (d : Int)] w fun e w' => e = .returned (.int .u64 ((d % 256 : Nat) : Int)) ∧ w = w' := fun w => mdvalue_ok 8 d (by omega) (by omega) (by omega) w
  have V4 : ∀ (z : Int), 0 ≤ z → z < 18446744073709551616 → ∀ w, Calls Try.prog 19 #[.int .u64 8, .int .u64 z] w fun e w' => e = .returned (.int .u64 ((z.toNat % 256 : Nat) : Int)) ∧ w = w' := fun z h0 h1 w => mdvalue_ok 8 z (by omega) h0 h1 w
  have S1 : ∀ w, Calls Try.prog 32 #[.int .u32 (d : Int)] w fun e w' => e = .returned (.int .i64 (sZ (d % 256) 8)) ∧ w = w' := fun w => wide8_ok d (by omega) w
  have S2 : ∀ (z : Int) (k : Nat), z = ((k % 4294967296 : Nat) : Int) → ∀ w, Calls Try.prog 32 #[.int .u32 z] w fun e w' => e = .returned (.int .i64 (sZ (k % 4294967296 % 256) 8)) ∧ w = w' := by
    intro z k hz w
    subst hz
    exact wide8_ok ((k % 4294967296 : Nat) : Int) (by omega) w
  have hx : h % 256 < 256 := Nat.mod_lt _ (by decide)
  have hy : l % 256 < 256 := Nat.mod_lt _ (by decide)
  have hz : d % 256 < 256 := Nat.mod_lt _ (by decide)
  generalize h % 256 = x at *
  generalize l % 256 = y at *
  generalize d % 256 = D at *
  have eN : bits .or .u64 ((x : Int) * 256) (y : Int) = ((x * 256 + y : Nat) : Int) := or_two' x y 8 256 256 (by decide) (by decide) (by decide) hx hy
  have hN : x * 256 + y < 65536 := by omega
  generalize x * 256 + y = N at *
  have LK := hide (sign_at w).1
  have H1 := hide V1
  have H2 := hide V2
  have H3 := hide V3
  have H4 := hide V4
  have HS1 := hide S1
  have HS2 := hide S2
  clear V1 V2 V3 V4 S1 S2
  rcases Nat.eq_zero_or_pos D with hD | hD
  · subst hD
    go_enter Try.func14, Try.ntmps14
    go_wp2_with fail
    refine (signs_ok _).mono ?_
    rintro e w' ⟨rfl, rfl⟩
    go_wp2_with fail
    rw [LK.out]
    go_wp2_with fail
    refine (H1.out _).mono ?_
    rintro e w' ⟨rfl, rfl⟩
    go_wp2_with fail
    refine (H2.out _).mono ?_
    rintro e w' ⟨rfl, rfl⟩
    go_wp2_with fail
    refine (H3.out _).mono ?_
    rintro e w' ⟨rfl, rfl⟩
    go_wp2
    refine bodyPost_ret (results_tmp4 rfl _ _ _) rfl ?_
    exact ⟨Or.inr ⟨by simp [divOk], rfl⟩, (Below.refl _ _).alloc (Nat.le_refl _) _⟩
  have d1 : ((D : Int) == 0) = false := by simp; omega
  have d2 : ¬ ((D : Int) = 0) := by omega
  have hm : N % D < 256 := Nat.lt_trans (Nat.mod_lt _ hD) hz
  have hqN : N / D < 65536 := Nat.lt_of_le_of_lt (Nat.div_le_self _ _) hN
  have e1 : (N : Int) / (D : Int) = ((N / D : Nat) : Int) := by simp
  have e2 : (N : Int) % (D : Int) = ((N % D : Nat) : Int) := by simp
  have o1 : (((N / D : Nat) : Int) / 256 != 0) = decide (256 ≤ N / D) := quo_hi (N / D) 256 (by decide)
  have eo : divOk false 8 N D = decide (N / D < 256) := divOk_un 8 N D 256 (by decide) (by omega)
  have eq := divQ_un 8 N D
  have er := divR_un 8 N D
  rw [divE_of eo eq er]
  clear eo eq er
  generalize N / D = q at *
  generalize N % D = r at *
  rcases Nat.lt_or_ge q 256 with ho | ho
  · rw [decide_eq_false (by omega)] at o1
    rw [decide_eq_true ho]
    go_enter Try.func14, Try.ntmps14
    go_wp2_with fail
    refine (signs_ok _).mono ?_
    rintro e w' ⟨rfl, rfl⟩
    go_wp2_with fail
    rw [LK.out]
    go_wp2_with fail
    refine (H1.out _).mono ?_
    rintro e w' ⟨rfl, rfl⟩
    go_wp2_with fail
    refine (H2.out _).mono ?_
    rintro e w' ⟨rfl, rfl⟩
    go_wp2_with fail
    refine (H3.out _).mono ?_
    rintro e w' ⟨rfl, rfl⟩
    go_wp2_with fail
    go_quiet (fail)
    go_wp2
    refine bodyPost_ret (results_tmp4 rfl _ _ _) rfl ?_
    exact ⟨Or.inl ⟨by simp, rfl⟩, below_drewN ((Below.refl _ _).alloc (Nat.le_refl _) _) _⟩
  · rw [decide_eq_true ho] at o1
    rw [decide_eq_false (by omega)]
    go_enter Try.func14, Try.ntmps14
    go_wp2_with fail
    refine (signs_ok _).mono ?_
    rintro e w' ⟨rfl, rfl⟩
    go_wp2_with fail
    rw [LK.out]
    go_wp2_with fail
    refine (H1.out _).mono ?_
    rintro e w' ⟨rfl, rfl⟩
    go_wp2_with fail
    refine (H2.out _).mono ?_
    rintro e w' ⟨rfl, rfl⟩
    go_wp2_with fail
    refine (H3.out _).mono ?_
    rintro e w' ⟨rfl, rfl⟩
    go_wp2
    refine bodyPost_ret (results_tmp4 rfl _ _ _) rfl ?_
    exact ⟨Or.inr ⟨by simp, rfl⟩, (Below.refl _ _).alloc (Nat.le_refl _) _⟩

set_option maxRecDepth 20000 in
set_option maxHeartbeats 1000000 in
theorem div1_true (l h d : Nat) (hl : l < 4294967296) (hh : h < 4294967296) (hd : d < 4294967296) (w : World) :
    Calls Try.prog 14 #[.bool true, .int .i64 1, .int .u32 l, .int .u32 h, .int .u32 d] w fun e w' => DivE true 8 (h % 256 * 256 + l % 256) (d % 256) e ∧ Below w.heap.size w w' := by
  have V1 : ∀ w, Calls Try.prog 19 #[.int .u64 8, .int .u64 (h : Int)] w fun e w' => e = .returned (.int .u64 ((h % 256 : Nat) : Int)) ∧ w = w' := fun w => mdvalue_ok 8 h (by omega) (by omega) (by omega) w
  have V2 : ∀ w, Calls Try.prog 19 #[.int .u64 8, .int .u64 (l : Int)] w fun e w' => e = .returned (.int .u64 ((l % 256 : Nat) : Int)) ∧ w = w' := fun w => mdvalue_ok 8 l (by omega) (by omega) (by omega) w
  have V3 : ∀ w, Calls Try.prog 19 #[.int .u64 8, .int .u64 (d : Int)] w fun e w' => e = .returned (.int .u64 ((d % 256 : Nat) : Int)) ∧ w = w' := fun w => mdvalue_ok 8 d (by omega) (by omega) (by omega) w
  have V4 : ∀ (z : Int), 0 ≤ z → z < 18446744073709551616 → ∀ w, Calls Try.prog 19 #[.int .u64 8, .int .u64 z] w fun e w' => e = .returned (.int .u64 ((z.toNat % 256 : Nat) : Int)) ∧ w = w' := fun z h0 h1 w => mdvalue_ok 8 z (by omega) h0 h1 w
  have S1 : ∀ w, Calls Try.prog 32 #[.int .u32 (d : Int)] w fun e w' => e = .returned (.int .i64 (sZ (d % 256) 8)) ∧ w = w' := fun w => wide8_ok d (by omega) w
  have S2 : ∀ (z : Int) (k : Nat), z = ((k % 4294967296 : Nat) : Int) → ∀ w, Calls Try.prog 32 #[.int .u32 z] w fun e w' => e = .returned (.int .i64 (sZ (k % 4294967296 % 256) 8)) ∧ w = w' := by
    intro z k hz w
    subst hz
    exact wide8_ok ((k % 4294967296 : Nat) : Int) (by omega) w
  have hx : h % 256 < 256 := Nat.mod_lt _ (by decide)
  have hy : l % 256 < 256 := Nat.mod_lt _ (by decide)
  have hz : d % 256 < 256 := Nat.mod_lt _ (by decide)
  generalize h % 256 = x at *
  generalize l % 256 = y at *
  generalize d % 256 = D at *
  have eN : bits .or .u64 ((x : Int) * 256) (y : Int) = ((x * 256 + y : Nat) : Int) := or_two' x y 8 256 256 (by decide) (by decide) (by decide) hx hy
  have hN : x * 256 + y < 65536 := by omega
  generalize x * 256 + y = N at *
  have LK := hide (sign_at w).1
  have H1 := hide V1
  have H2 := hide V2
  have H3 := hide V3
  have H4 := hide V4
  have HS1 := hide S1
  have HS2 := hide S2
  clear V1 V2 V3 V4 S1 S2
  rcases Nat.eq_zero_or_pos D with hD | hD
  · subst hD
    go_enter Try.func14, Try.ntmps14
    go_wp2_with fail
    refine (signs_ok _).mono ?_
    rintro e w' ⟨rfl, rfl⟩
    go_wp2_with fail
    rw [LK.out]
    go_wp2_with fail
    refine (H1.out _).mono ?_
    rintro e w' ⟨rfl, rfl⟩
    go_wp2_with fail
    refine (H2.out _).mono ?_
    rintro e w' ⟨rfl, rfl⟩
    go_wp2_with fail
    refine (H3.out _).mono ?_
    rintro e w' ⟨rfl, rfl⟩
    go_wp2
    refine bodyPost_ret (results_tmp4 rfl _ _ _) rfl ?_
    exact ⟨Or.inr ⟨by simp [divOk], rfl⟩, (Below.refl _ _).alloc (Nat.le_refl _) _⟩
  have d1 : ((D : Int) == 0) = false := by simp; omega
  have nP : magN N 16 ≤ 2 ^ (16 - 1) := magN_le N 16 (by unfold wB2; decide) hN
  have nQ : magN D 8 ≤ 2 ^ (8 - 1) := magN_le D 8 (by unfold wB2; decide) hz
  have pQ : 0 < magN D 8 := mag_pos D 8 hz (by omega)
  have sX := sZ_mag N 16 hN
  have sY := sZ_mag D 8 hz
  have wX := wideX8 N hN
  have tm := tdiv_mag (sZ N 16) (sZ D 8) (magN N 16) (magN D 8) (sgn N 16) (sgn D 8) sX sY
  have hY0 : sZ D 8 ≠ 0 := by
    rw [sY]
    split <;> omega
  have eo := divOk_sg 8 16 N D (by decide) (by omega)
  have eq := divQ_sg 8 16 N D (by decide)
  have er := divR_sg 8 16 N D (by decide)
  have hq : magN N 16 / magN D 8 ≤ 2 ^ (2 * 8 - 1) := Nat.le_trans (Nat.div_le_self _ _) nP
  have hr : magN N 16 % magN D 8 ≤ 2 ^ (8 - 1) := Nat.le_trans (Nat.le_of_lt (Nat.mod_lt _ pQ)) nQ
  obtain ⟨M1, hM1, l1, m1⟩ := wrap_u64 ((sZ N 16).tdiv (sZ D 8))
  obtain ⟨M2, hM2, l2, m2⟩ := wrap_u64 ((sZ N 16).tmod (sZ D 8))
  have sp := sdiv_prog 8 _ _ _ _ _ _ M1 M2 (by unfold wB; decide) hq hr tm.1 tm.2 m1 m2
  have hov : sZ D 8 = -1 ∧ sZ N 16 = -9223372036854775808 → divOk true 8 N D = false := by
    intro ⟨h1, h2⟩
    rw [eo]
    rw [sY] at h1
    rw [sX] at h2
    exact min_over _ _ 8 _ _ (by decide) nP h1 h2
  rw [show (2 : Nat) ^ 8 = 256 from rfl] at sp
  rw [divE_of eo eq er]
  clear eq er
  rw [eo] at hov
  rw [← sp.1] at hov ⊢
  have sq := sp.2.1
  rw [← sp.2.2]
  have hX2 := sZ_top N 16 (by unfold wB2; decide) hN
  have bv := fun hn => div_wrap (magN N 16) (magN D 8) (sgn N 16) (sgn D 8) (sZ N 16) (sZ D 8) _ (Nat.le_trans nP (by decide)) sX sY (Int.le_trans hX2.1 (by decide)) pQ tm.1 hn
  have bw : -2147483648 ≤ (sZ N 16).tmod (sZ D 8) ∧ (sZ N 16).tmod (sZ D 8) ≤ 2147483648 := by
    have hr2 : magN N 16 % magN D 8 ≤ 2147483648 := Nat.le_trans hr (by decide)
    rw [tm.2]
    split <;> omega
  have hXl : -(2 ^ (16 - 1) : Int) ≤ sZ N 16 := hX2.2
  clear sp eo sX sY tm nP nQ pQ hq hr
  generalize (if sgn N 16 == sgn D 8 then magN N 16 / magN D 8 else negN (magN N 16 / magN D 8) 8) = Q at *
  generalize sZ N 16 = X at *
  generalize sZ D 8 = Y at *
  generalize hV : X.tdiv Y = V at *
  generalize hW : X.tmod Y = W at *
  have hwW : wrap64 W = W := by
    unfold wrap64
    omega
  by_cases hmin : Y = -1 ∧ X = -9223372036854775808
  · exfalso
    have h1 := hmin.2
    simp only [Nat.reduceSub, Int.reducePow] at hXl
    omega
  · have bv' := bv hmin
    clear hX2 hXl
    have hwV : wrap64 V = V := by
      unfold wrap64
      omega
    have eU2 : IntKind.u32.wrap V = ((M1 % 4294967296 : Nat) : Int) := by
      show V % 4294967296 = _
      omega
    have S3 : ∀ w, Calls Try.prog 32 #[.int .u32 ((M1 % 4294967296 : Nat) : Int)] w fun e w' => e = .returned (.int .i64 (sZ (M1 % 4294967296 % 256) 8)) ∧ w = w' := fun w => HS2.out _ M1 rfl w
    have V5 : ∀ w, Calls Try.prog 19 #[.int .u64 8, .int .u64 (M1 : Int)] w fun e w' => e = .returned (.int .u64 ((M1 % 256 : Nat) : Int)) ∧ w = w' := fun w => H4.out _ (by omega) (by omega) w
    have V6 : ∀ w, Calls Try.prog 19 #[.int .u64 8, .int .u64 (M2 : Int)] w fun e w' => e = .returned (.int .u64 ((M2 % 256 : Nat) : Int)) ∧ w = w' := fun w => H4.out _ (by omega) (by omega) w
    have V5b : ∀ w, Calls Try.prog 19 #[.int .u64 8, .int .u64 (V % 18446744073709551616)] w fun e w' => e = .returned (.int .u64 ((M1 % 256 : Nat) : Int)) ∧ w = w' := by
      rw [← m1]
      exact V5
    have V6b : ∀ w, Calls Try.prog 19 #[.int .u64 8, .int .u64 (W % 18446744073709551616)] w fun e w' => e = .returned (.int .u64 ((M2 % 256 : Nat) : Int)) ∧ w = w' := by
      rw [← m2]
      exact V6
    have hR2 : M2 % 256 < 256 := Nat.mod_lt _ (by decide)
    have hQ2 : M1 % 256 < 256 := Nat.mod_lt _ (by decide)
    clear hov bv H4 HS2
    generalize ho : (V != sZ (M1 % 4294967296 % 256) 8) = o at *
    generalize sZ (M1 % 4294967296 % 256) 8 = sm at *
    generalize M2 % 256 = r2 at *
    have HQ := hide sq
    clear sq
    have hmin2 : Y = -1 ∧ X ≠ -9223372036854775808 ∨ Y ≠ -1 := by omega
    have HS3 := hide S3
    have HV6 := hide V6
    have HV6b := hide V6b
    clear S3 V6 V6b
    cases o
    · have hM : M1 % 256 = Q := HQ.out rfl
      rw [hM] at V5 hQ2 V5b
      have HV5 := hide V5
      have HV5b := hide V5b
      clear V5 V5b hM HQ
      generalize M1 % 4294967296 = u1 at *
      have y1 : (Y == -1) = true ∧ (X == -9223372036854775808) = false ∨ (Y == -1) = false := by
        rcases hmin2 with ⟨a, b⟩ | a
        · left; constructor <;> simp [a, b]
        · right; simp [a]
      clear hmin2
      rcases y1 with ⟨hy1, hx1⟩ | hy1
      · skip
        go_enter Try.func14, Try.ntmps14
        go_wp2_with fail
        refine (signs_ok _).mono ?_
        rintro e w' ⟨rfl, rfl⟩
        go_wp2_with fail
        rw [LK.out]
        go_wp2_with fail
        refine (H1.out _).mono ?_
        rintro e w' ⟨rfl, rfl⟩
        go_wp2_with fail
        refine (H2.out _).mono ?_
        rintro e w' ⟨rfl, rfl⟩
        go_wp2_with fail
        refine (H3.out _).mono ?_
        rintro e w' ⟨rfl, rfl⟩
        go_wp2_with fail
        refine (HS1.out _).mono ?_
        rintro e w' ⟨rfl, rfl⟩
        go_wp2_with fail
        go_quiet ((go_at_call 32; with_reducible exact quiet_left (HS3.out _)))
        go_wp2_with fail
        go_quiet ((go_at_call 19; first | (with_reducible exact quiet_add_left (HV5b.out _)) | (with_reducible exact quiet_add_left (HV6b.out _)) | (with_reducible exact quiet_add_left (HV5.out _)) | (with_reducible exact quiet_add_left (HV6.out _)) | (with_reducible exact quiet_left (HV5.out _)) | (with_reducible exact quiet_left (HV6.out _))))
        go_wp2
        refine bodyPost_ret (results_tmp4 rfl _ _ _) rfl ?_
        exact ⟨Or.inl ⟨by simp, rfl⟩, by repeat (first | exact (Below.refl _ _).alloc (Nat.le_refl _) _ | apply below_drewN)⟩
      · skip
        go_enter Try.func14, Try.ntmps14
        go_wp2_with fail
        refine (signs_ok _).mono ?_
        rintro e w' ⟨rfl, rfl⟩
        go_wp2_with fail
        rw [LK.out]
        go_wp2_with fail
        refine (H1.out _).mono ?_
        rintro e w' ⟨rfl, rfl⟩
        go_wp2_with fail
        refine (H2.out _).mono ?_
        rintro e w' ⟨rfl, rfl⟩
        go_wp2_with fail
        refine (H3.out _).mono ?_
        rintro e w' ⟨rfl, rfl⟩
        go_wp2_with fail
        refine (HS1.out _).mono ?_
        rintro e w' ⟨rfl, rfl⟩
        go_wp2_with fail
        go_quiet ((go_at_call 32; with_reducible exact quiet_left (HS3.out _)))
        go_wp2_with fail
        go_quiet ((go_at_call 19; first | (with_reducible exact quiet_add_left (HV5b.out _)) | (with_reducible exact quiet_add_left (HV6b.out _)) | (with_reducible exact quiet_add_left (HV5.out _)) | (with_reducible exact quiet_add_left (HV6.out _)) | (with_reducible exact quiet_left (HV5.out _)) | (with_reducible exact quiet_left (HV6.out _))))
        go_wp2
        refine bodyPost_ret (results_tmp4 rfl _ _ _) rfl ?_
        exact ⟨Or.inl ⟨by simp, rfl⟩, by repeat (first | exact (Below.refl _ _).alloc (Nat.le_refl _) _ | apply below_drewN)⟩
    · clear HQ V5 V5b
      generalize M1 % 4294967296 = u1 at *
      have y1 : (Y == -1) = true ∧ (X == -9223372036854775808) = false ∨ (Y == -1) = false := by
        rcases hmin2 with ⟨a, b⟩ | a
        · left; constructor <;> simp [a, b]
        · right; simp [a]
      clear hmin2
      rcases y1 with ⟨hy1, hx1⟩ | hy1
      · skip
        go_enter Try.func14, Try.ntmps14
        go_wp2_with fail
        refine (signs_ok _).mono ?_
        rintro e w' ⟨rfl, rfl⟩
        go_wp2_with fail
        rw [LK.out]
        go_wp2_with fail
        refine (H1.out _).mono ?_
        rintro e w' ⟨rfl, rfl⟩
        go_wp2_with fail
        refine (H2.out _).mono ?_
        rintro e w' ⟨rfl, rfl⟩
        go_wp2_with fail
        refine (H3.out _).mono ?_
        rintro e w' ⟨rfl, rfl⟩
        go_wp2_with fail
        refine (HS1.out _).mono ?_
        rintro e w' ⟨rfl, rfl⟩
        go_wp2_with fail
        go_quiet ((go_at_call 32; with_reducible exact quiet_left (HS3.out _)))
        go_wp2
        refine bodyPost_ret (results_tmp4 rfl _ _ _) rfl ?_
        exact ⟨Or.inr ⟨by simp, rfl⟩, by repeat (first | exact (Below.refl _ _).alloc (Nat.le_refl _) _ | apply below_drewN)⟩
      · skip
        go_enter Try.func14, Try.ntmps14
        go_wp2_with fail
        refine (signs_ok _).mono ?_
        rintro e w' ⟨rfl, rfl⟩
        go_wp2_with fail
        rw [LK.out]
        go_wp2_with fail
        refine (H1.out _).mono ?_
        rintro e w' ⟨rfl, rfl⟩
        go_wp2_with fail
        refine (H2.out _).mono ?_
        rintro e w' ⟨rfl, rfl⟩
        go_wp2_with fail
        refine (H3.out _).mono ?_
        rintro e w' ⟨rfl, rfl⟩
        go_wp2_with fail
        refine (HS1.out _).mono ?_
        rintro e w' ⟨rfl, rfl⟩
        go_wp2_with fail
        go_quiet ((go_at_call 32; with_reducible exact quiet_left (HS3.out _)))
        go_wp2
        refine bodyPost_ret (results_tmp4 rfl _ _ _) rfl ?_
        exact ⟨Or.inr ⟨by simp, rfl⟩, by repeat (first | exact (Below.refl _ _).alloc (Nat.le_refl _) _ | apply below_drewN)⟩

end Go.Proofs.Ytfjjipkieecpcaa
