/- The program's Div of size 4. -/
import Derived.Test.YtfjjipkieecpcaaMdDivB
namespace Go.Proofs.Ytfjjipkieecpcaa
open Go.RowKit Pl
set_option linter.unusedVariables false

set_option maxRecDepth 20000 in
set_option maxHeartbeats 1000000 in
theorem div4_false (l h d : Nat) (hl : l < 4294967296) (hh : h < 4294967296) (hd : d < 4294967296) (w : World) :
    Calls Try.prog 14 #[.bool false, .int .i64 4, .int .u32 l, .int .u32 h, .int .u32 d] w fun e w' => DivE false 32 (h % 4294967296 * 4294967296 + l % 4294967296) (d % 4294967296) e ∧ Below w.heap.size w w' := by
  have V1 : ∀ w, Calls Try.prog 19 #[.int .u64 32, .int .u64 (h : Int)] w fun e w' => e = .returned (.int .u64 ((h % 4294967296 : Nat) : Int)) ∧ w = w' := fun w => mdvalue_ok 32 h (by omega) (by omega) (by omega) w
  have V2 : ∀ w, Calls Try.prog 19 #[.int .u64 32, .int .u64 (l : Int)] w fun e w' => e = .returned (.int .u64 ((l % 4294967296 : Nat) : Int)) ∧ w = w' := fun w => mdvalue_ok 32 l (by omega) (by omega) (by omega) w
  have V3 : ∀ w, Calls Try.prog 19 #[.int .u64 32, .int .u64 (d : Int)] w fun e w' => e = .returned (.int .u64 ((d % 4294967296 : Nat) : Int)) ∧ w = w' := fun w => mdvalue_ok 32 d (by omega) (by omega) (by omega) w
  have V4 : ∀ (z : Int), 0 ≤ z → z < 18446744073709551616 → ∀ w, Calls Try.prog 19 #[.int .u64 32, .int .u64 z] w fun e w' => e = .returned (.int .u64 ((z.toNat % 4294967296 : Nat) : Int)) ∧ w = w' := fun z h0 h1 w => mdvalue_ok 32 z (by omega) h0 h1 w
  have S1 : ∀ w, Calls Try.prog 34 #[.int .u32 (d : Int)] w fun e w' => e = .returned (.int .i64 (sZ (d % 4294967296) 32)) ∧ w = w' := fun w => wide32_ok d (by omega) w
  have S2 : ∀ (z : Int) (k : Nat), z = ((k % 4294967296 : Nat) : Int) → ∀ w, Calls Try.prog 34 #[.int .u32 z] w fun e w' => e = .returned (.int .i64 (sZ (k % 4294967296 % 4294967296) 32)) ∧ w = w' := by
    intro z k hz w
    subst hz
    exact wide32_ok ((k % 4294967296 : Nat) : Int) (by omega) w
  have hx : h % 4294967296 < 4294967296 := Nat.mod_lt _ (by decide)
  have hy : l % 4294967296 < 4294967296 := Nat.mod_lt _ (by decide)
  have hz : d % 4294967296 < 4294967296 := Nat.mod_lt _ (by decide)
  generalize h % 4294967296 = x at *
  generalize l % 4294967296 = y at *
  generalize d % 4294967296 = D at *
  have eN : bits .or .u64 ((x : Int) * 4294967296) (y : Int) = ((x * 4294967296 + y : Nat) : Int) := or_two' x y 32 4294967296 4294967296 (by decide) (by decide) (by decide) hx hy
  have hN : x * 4294967296 + y < 18446744073709551616 := by omega
  generalize x * 4294967296 + y = N at *
  have LK := hide (sign_at w).2.2
  have H1 := hide V1
  have H2 := hide V2
  have H3 := hide V3
  have H4 := hide V4
  have HS1 := hide S1
  have HS2 := hide S2
  clear V1 V2 V3 V4 S1 S2
  rcases Nat.eq_zero_or_pos D with hD | hD
  · subst hD
    go_enter Try.func14, Try.ntmps14
    go_wp2_with fail
    refine (signs_ok _).mono ?_
    rintro e w' ⟨rfl, rfl⟩
    go_wp2_with fail
    rw [LK.out]
    go_wp2_with fail
    refine (H1.out _).mono ?_
    rintro e w' ⟨rfl, rfl⟩
    go_wp2_with fail
    refine (H2.out _).mono ?_
    rintro e w' ⟨rfl, rfl⟩
    go_wp2_with fail
    refine (H3.out _).mono ?_
    rintro e w' ⟨rfl, rfl⟩
    go_wp2
    refine bodyPost_ret (results_tmp4 rfl _ _ _) rfl ?_
    exact ⟨Or.inr ⟨by simp [divOk], rfl⟩, (Below.refl _ _).alloc (Nat.le_refl _) _⟩
  have d1 : ((D : Int) == 0) = false := by simp; omega
  have d2 : ¬ ((D : Int) = 0) := by omega
  have hm : N % D < 4294967296 := Nat.lt_trans (Nat.mod_lt _ hD) hz
  have hqN : N / D < 18446744073709551616 := Nat.lt_of_le_of_lt (Nat.div_le_self _ _) hN
  have e1 : (N : Int) / (D : Int) = ((N / D : Nat) : Int) := by simp
  have e2 : (N : Int) % (D : Int) = ((N % D : Nat) : Int) := by simp
  have o1 : (((N / D : Nat) : Int) / 4294967296 != 0) = decide (4294967296 ≤ N / D) := quo_hi (N / D) 4294967296 (by decide)
  have eo : divOk false 32 N D = decide (N / D < 4294967296) := divOk_un 32 N D 4294967296 (by decide) (by omega)
  have eq := divQ_un 32 N D
  have er := divR_un 32 N D
  rw [divE_of eo eq er]
  clear eo eq er
  generalize N / D = q at *
  generalize N % D = r at *
  rcases Nat.lt_or_ge q 4294967296 with ho | ho
  · rw [decide_eq_false (by omega)] at o1
    rw [decide_eq_true ho]
    go_enter Try.func14, Try.ntmps14
    go_wp2_with fail
    refine (signs_ok _).mono ?_
    rintro e w' ⟨rfl, rfl⟩
    go_wp2_with fail
    rw [LK.out]
    go_wp2_with fail
    refine (H1.out _).mono ?_
    rintro e w' ⟨rfl, rfl⟩
    go_wp2_with fail
    refine (H2.out _).mono ?_
    rintro e w' ⟨rfl, rfl⟩
    go_wp2_with fail
    refine (H3.out _).mono ?_
    rintro e w' ⟨rfl, rfl⟩
    go_wp2_with fail
    go_quiet (fail)
    go_wp2
    refine bodyPost_ret (results_tmp4 rfl _ _ _) rfl ?_
    exact ⟨Or.inl ⟨by simp, rfl⟩, below_drewN ((Below.refl _ _).alloc (Nat.le_refl _) _) _⟩
  · rw [decide_eq_true ho] at o1
    rw [decide_eq_false (by omega)]
    go_enter Try.func14, Try.ntmps14
    go_wp2_with fail
    refine (signs_ok _).mono ?_
    rintro e w' ⟨rfl, rfl⟩
    go_wp2_with fail
    rw [LK.out]
    go_wp2_with fail
    refine (H1.out _).mono ?_
    rintro e w' ⟨rfl, rfl⟩
    go_wp2_with fail
    refine (H2.out _).mono ?_
    rintro e w' ⟨rfl, rfl⟩
    go_wp2_with fail
    refine (H3.out _).mono ?_
    rintro e w' ⟨rfl, rfl⟩
    go_wp2
    refine bodyPost_ret (results_tmp4 rfl _ _ _) rfl ?_
    exact ⟨Or.inr ⟨by simp, rfl⟩, (Below.refl _ _).alloc (Nat.le_refl _) _⟩

end Go.Proofs.Ytfjjipkieecpcaa
