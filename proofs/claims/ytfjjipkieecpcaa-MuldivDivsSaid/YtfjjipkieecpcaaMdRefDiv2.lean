/- The document's Div of size 2. -/
import Derived.Test.YtfjjipkieecpcaaMdRef
import Derived.Test.YtfjjipkieecpcaaMdDivB
namespace Go.Proofs.Ytfjjipkieecpcaa
open Go.RowKit Pl
set_option linter.unusedVariables false

theorem negN_lt2 (q b M : Nat) (hM : M = 2 ^ b) (h0 : 0 < M) : negN q b < M := by
  subst hM
  exact Nat.mod_lt _ h0

set_option maxRecDepth 20000 in
set_option maxHeartbeats 1000000 in
theorem refdiv2_false (l h d : Nat) (hl : l < 4294967296) (hh : h < 4294967296) (hd : d < 4294967296) (w : World) :
    Calls Try.prog 15 #[.bool false, .int .i64 2, .int .u32 l, .int .u32 h, .int .u32 d] w fun e w' => DivE false 16 (h % 65536 * 65536 + l % 65536) (d % 65536) e ∧ Below w.heap.size w w' := by
  have V1 : ∀ w, Calls Try.prog 22 #[.int .u64 (h : Int), .int .i64 16] w fun e w' => e = .returned (.int .u64 ((h % 65536 : Nat) : Int)) ∧ w = w' := fun w => cut_ok h 16 (by omega) (by decide) w
  have V2 : ∀ w, Calls Try.prog 22 #[.int .u64 (l : Int), .int .i64 16] w fun e w' => e = .returned (.int .u64 ((l % 65536 : Nat) : Int)) ∧ w = w' := fun w => cut_ok l 16 (by omega) (by decide) w
  have V3 : ∀ w, Calls Try.prog 22 #[.int .u64 (d : Int), .int .i64 16] w fun e w' => e = .returned (.int .u64 ((d % 65536 : Nat) : Int)) ∧ w = w' := fun w => cut_ok d 16 (by omega) (by decide) w
  have hx : h % 65536 < 65536 := Nat.mod_lt _ (by decide)
  have hy : l % 65536 < 65536 := Nat.mod_lt _ (by decide)
  have hz : d % 65536 < 65536 := Nat.mod_lt _ (by decide)
  generalize h % 65536 = x at *
  generalize l % 65536 = y at *
  generalize d % 65536 = D at *
  have eN : (x : Int) * 65536 + (y : Int) = ((x * 65536 + y : Nat) : Int) := by omega
  have hN : x * 65536 + y < 4294967296 := by omega
  generalize x * 65536 + y = N at *
  have H1 := hide V1
  have H2 := hide V2
  have H3 := hide V3
  clear V1 V2 V3
  rcases Nat.eq_zero_or_pos D with hD | hD
  · subst hD
    go_enter Try.func15, Try.ntmps15
    go_wp2_with (go_at_call 21; go_in)
    refine (H1.out _).mono ?_
    rintro e w' ⟨rfl, rfl⟩
    go_wp2_with fail
    refine (H2.out _).mono ?_
    rintro e w' ⟨rfl, rfl⟩
    go_wp2_with fail
    refine (H3.out _).mono ?_
    rintro e w' ⟨rfl, rfl⟩
    go_wp2
    refine bodyPost_ret (results_tmp4 rfl _ _ _) rfl ?_
    exact ⟨Or.inr ⟨by simp [divOk], rfl⟩, (by repeat (first | exact Below.refl _ _ | apply below_drewN))⟩
  have d1 : ((D : Int) == 0) = false := by simp; omega
  have d2 : ¬ ((D : Int) = 0) := by omega
  have hm : N % D < 65536 := Nat.lt_trans (Nat.mod_lt _ hD) hz
  have hqN : N / D < 4294967296 := Nat.lt_of_le_of_lt (Nat.div_le_self _ _) hN
  have e1 : (N : Int) / (D : Int) = ((N / D : Nat) : Int) := by simp
  have e2 : (N : Int) % (D : Int) = ((N % D : Nat) : Int) := by simp
  have eo : divOk false 16 N D = decide (N / D < 65536) := divOk_un 16 N D 65536 (by decide) (by omega)
  have eq := divQ_un 16 N D
  have er := divR_un 16 N D
  rw [divE_of eo eq er]
  clear eo eq er
  generalize N / D = q at *
  generalize N % D = r at *
  rcases Nat.lt_or_ge q 65536 with ho | ho
  · rw [decide_eq_true ho]
    go_enter Try.func15, Try.ntmps15
    go_wp2_with (go_at_call 21; go_in)
    refine (H1.out _).mono ?_
    rintro e w' ⟨rfl, rfl⟩
    go_wp2_with fail
    refine (H2.out _).mono ?_
    rintro e w' ⟨rfl, rfl⟩
    go_wp2_with fail
    refine (H3.out _).mono ?_
    rintro e w' ⟨rfl, rfl⟩
    go_wp2_with fail
    try go_quiet (fail)
    try go_wp2
    refine bodyPost_ret (results_tmp4 rfl _ _ _) rfl ?_
    exact ⟨Or.inl ⟨by simp, rfl⟩, (by repeat (first | exact Below.refl _ _ | apply below_drewN))⟩
  · rw [decide_eq_false (by omega)]
    go_enter Try.func15, Try.ntmps15
    go_wp2_with (go_at_call 21; go_in)
    refine (H1.out _).mono ?_
    rintro e w' ⟨rfl, rfl⟩
    go_wp2_with fail
    refine (H2.out _).mono ?_
    rintro e w' ⟨rfl, rfl⟩
    go_wp2_with fail
    refine (H3.out _).mono ?_
    rintro e w' ⟨rfl, rfl⟩
    go_wp2
    refine bodyPost_ret (results_tmp4 rfl _ _ _) rfl ?_
    exact ⟨Or.inr ⟨by simp, rfl⟩, (by repeat (first | exact Below.refl _ _ | apply below_drewN))⟩

set_option maxRecDepth 20000 in
set_option maxHeartbeats 1000000 in
theorem refdiv2_true (l h d : Nat) (hl : l < 4294967296) (hh : h < 4294967296) (hd : d < 4294967296) (w : World) :
    Calls Try.prog 15 #[.bool true, .int .i64 2, .int .u32 l, .int .u32 h, .int .u32 d] w fun e w' => DivE true 16 (h % 65536 * 65536 + l % 65536) (d % 65536) e ∧ Below w.heap.size w w' := by
  have V1 : ∀ w, Calls Try.prog 22 #[.int .u64 (h : Int), .int .i64 16] w fun e w' => e = .returned (.int .u64 ((h % 65536 : Nat) : Int)) ∧ w = w' := fun w => cut_ok h 16 (by omega) (by decide) w
  have V2 : ∀ w, Calls Try.prog 22 #[.int .u64 (l : Int), .int .i64 16] w fun e w' => e = .returned (.int .u64 ((l % 65536 : Nat) : Int)) ∧ w = w' := fun w => cut_ok l 16 (by omega) (by decide) w
  have V3 : ∀ w, Calls Try.prog 22 #[.int .u64 (d : Int), .int .i64 16] w fun e w' => e = .returned (.int .u64 ((d % 65536 : Nat) : Int)) ∧ w = w' := fun w => cut_ok d 16 (by omega) (by decide) w
  have hx : h % 65536 < 65536 := Nat.mod_lt _ (by decide)
  have hy : l % 65536 < 65536 := Nat.mod_lt _ (by decide)
  have hz : d % 65536 < 65536 := Nat.mod_lt _ (by decide)
  generalize h % 65536 = x at *
  generalize l % 65536 = y at *
  generalize d % 65536 = D at *
  have eN : (x : Int) * 65536 + (y : Int) = ((x * 65536 + y : Nat) : Int) := by omega
  have hN : x * 65536 + y < 4294967296 := by omega
  generalize x * 65536 + y = N at *
  have H1 := hide V1
  have H2 := hide V2
  have H3 := hide V3
  clear V1 V2 V3
  rcases Nat.eq_zero_or_pos D with hD | hD
  · subst hD
    go_enter Try.func15, Try.ntmps15
    go_wp2_with (go_at_call 21; go_in)
    refine (H1.out _).mono ?_
    rintro e w' ⟨rfl, rfl⟩
    go_wp2_with fail
    refine (H2.out _).mono ?_
    rintro e w' ⟨rfl, rfl⟩
    go_wp2_with fail
    refine (H3.out _).mono ?_
    rintro e w' ⟨rfl, rfl⟩
    go_wp2
    refine bodyPost_ret (results_tmp4 rfl _ _ _) rfl ?_
    exact ⟨Or.inr ⟨by simp [divOk], rfl⟩, (by repeat (first | exact Below.refl _ _ | apply below_drewN))⟩
  have d1 : ((D : Int) == 0) = false := by simp; omega
  have nP : magN N 32 ≤ 2 ^ (32 - 1) := magN_le N 32 (by unfold wB2; decide) hN
  have nQ : magN D 16 ≤ 2 ^ (16 - 1) := magN_le D 16 (by unfold wB2; decide) hz
  have pQ : 0 < magN D 16 := mag_pos D 16 hz (by omega)
  have G1 : ∀ w, Calls Try.prog 23 #[.int .u64 (N : Int), .int .i64 32] w fun e w' => e = .returned (.tuple #[.int .u64 ((magN N 32 : Nat) : Int), .bool (sgn N 32)]) ∧ w = w' := fun w => mag_ok N 32 (by decide) hN w
  have G2 : ∀ w, Calls Try.prog 23 #[.int .u64 (D : Int), .int .i64 16] w fun e w' => e = .returned (.tuple #[.int .u64 ((magN D 16 : Nat) : Int), .bool (sgn D 16)]) ∧ w = w' := fun w => mag_ok D 16 (by decide) hz w
  have eo := divOk_sg 16 32 N D (by decide) (by omega)
  have eq := divQ_sg 16 32 N D (by decide)
  have er := divR_sg 16 32 N D (by decide)
  rw [divE_of eo eq er]
  clear eo eq er
  have hq : magN N 32 / magN D 16 ≤ 2 ^ (32 - 1) := Nat.le_trans (Nat.div_le_self _ _) nP
  have hr : magN N 32 % magN D 16 ≤ 2 ^ (16 - 1) := Nat.le_trans (Nat.le_of_lt (Nat.mod_lt _ pQ)) nQ
  have e1 : ((magN N 32 : Nat) : Int) / ((magN D 16 : Nat) : Int) = ((magN N 32 / magN D 16 : Nat) : Int) := by simp
  have e2 : ((magN N 32 : Nat) : Int) % ((magN D 16 : Nat) : Int) = ((magN N 32 % magN D 16 : Nat) : Int) := by simp
  generalize magN N 32 / magN D 16 = q at *
  generalize magN N 32 % magN D 16 = r at *
  generalize magN N 32 = P at *
  generalize magN D 16 = Q at *
  generalize sgn N 32 = s at *
  generalize sgn D 16 = t at *
  simp only [Nat.reduceSub, Nat.reducePow] at hq hr nP nQ ⊢
  have d3 : ((Q : Int) == 0) = false := by simp; omega
  have d4 : ¬ ((Q : Int) = 0) := by omega
  have N1 : q ≤ 65536 → ∀ w, Calls Try.prog 24 #[.int .u64 (q : Int), .int .i64 16] w fun e w' => e = .returned (.int .u64 ((negN q 16 : Nat) : Int)) ∧ w = w' := fun h w => neg_ok q 16 (by decide) (by simp only [Int.reduceToNat, Nat.reducePow]; exact h) (by omega) w
  have N2 : ∀ w, Calls Try.prog 24 #[.int .u64 (r : Int), .int .i64 16] w fun e w' => e = .returned (.int .u64 ((negN r 16 : Nat) : Int)) ∧ w = w' := fun w => neg_ok r 16 (by decide) (by simp only [Int.reduceToNat, Nat.reducePow]; omega) (by omega) w
  have b1 := negN_lt2 q 16 65536 (by decide) (by decide)
  have b2 := negN_lt2 r 16 65536 (by decide) (by decide)
  generalize negN q 16 = nq at *
  generalize negN r 16 = nr at *
  have HG1 := hide G1
  have HG2 := hide G2
  have HN1 := hide N1
  have HN2 := hide N2
  clear G1 G2 N1 N2
  cases s <;> cases t
  · rcases Nat.lt_or_ge (32768 - 1) q with ho | ho
    · skip
      go_enter Try.func15, Try.ntmps15
      go_wp2_with (go_at_call 21; go_in)
      refine (H1.out _).mono ?_
      rintro e w' ⟨rfl, rfl⟩
      go_wp2_with fail
      refine (H2.out _).mono ?_
      rintro e w' ⟨rfl, rfl⟩
      go_wp2_with fail
      refine (H3.out _).mono ?_
      rintro e w' ⟨rfl, rfl⟩
      go_wp2_with fail
      refine (HG1.out _).mono ?_
      rintro e w' ⟨rfl, rfl⟩
      go_wp2_with fail
      refine (HG2.out _).mono ?_
      rintro e w' ⟨rfl, rfl⟩
      go_wp2
      refine bodyPost_ret (results_tmp4 rfl _ _ _) rfl ?_
      first
        | exact ⟨rfl, (by repeat (first | exact Below.refl _ _ | apply below_drewN))⟩
        | exact ⟨Or.inr ⟨by simp; omega, rfl⟩, (by repeat (first | exact Below.refl _ _ | apply below_drewN))⟩
    · skip
      go_enter Try.func15, Try.ntmps15
      go_wp2_with (go_at_call 21; go_in)
      refine (H1.out _).mono ?_
      rintro e w' ⟨rfl, rfl⟩
      go_wp2_with fail
      refine (H2.out _).mono ?_
      rintro e w' ⟨rfl, rfl⟩
      go_wp2_with fail
      refine (H3.out _).mono ?_
      rintro e w' ⟨rfl, rfl⟩
      go_wp2_with fail
      refine (HG1.out _).mono ?_
      rintro e w' ⟨rfl, rfl⟩
      go_wp2_with fail
      refine (HG2.out _).mono ?_
      rintro e w' ⟨rfl, rfl⟩
      go_wp2
      refine bodyPost_ret (results_tmp4 rfl _ _ _) rfl ?_
      first
        | exact ⟨rfl, (by repeat (first | exact Below.refl _ _ | apply below_drewN))⟩
        | exact ⟨Or.inl rfl, (by repeat (first | exact Below.refl _ _ | apply below_drewN))⟩
        | exact ⟨Or.inl ⟨by simp; omega, rfl⟩, (by repeat (first | exact Below.refl _ _ | apply below_drewN))⟩
  · rcases Nat.lt_or_ge (32768) q with ho | ho
    · skip
      go_enter Try.func15, Try.ntmps15
      go_wp2_with (go_at_call 21; go_in)
      refine (H1.out _).mono ?_
      rintro e w' ⟨rfl, rfl⟩
      go_wp2_with fail
      refine (H2.out _).mono ?_
      rintro e w' ⟨rfl, rfl⟩
      go_wp2_with fail
      refine (H3.out _).mono ?_
      rintro e w' ⟨rfl, rfl⟩
      go_wp2_with fail
      refine (HG1.out _).mono ?_
      rintro e w' ⟨rfl, rfl⟩
      go_wp2_with fail
      refine (HG2.out _).mono ?_
      rintro e w' ⟨rfl, rfl⟩
      go_wp2
      refine bodyPost_ret (results_tmp4 rfl _ _ _) rfl ?_
      first
        | exact ⟨rfl, (by repeat (first | exact Below.refl _ _ | apply below_drewN))⟩
        | exact ⟨Or.inr ⟨by simp; omega, rfl⟩, (by repeat (first | exact Below.refl _ _ | apply below_drewN))⟩
    · skip
      go_enter Try.func15, Try.ntmps15
      go_wp2_with (go_at_call 21; go_in)
      refine (H1.out _).mono ?_
      rintro e w' ⟨rfl, rfl⟩
      go_wp2_with fail
      refine (H2.out _).mono ?_
      rintro e w' ⟨rfl, rfl⟩
      go_wp2_with fail
      refine (H3.out _).mono ?_
      rintro e w' ⟨rfl, rfl⟩
      go_wp2_with fail
      refine (HG1.out _).mono ?_
      rintro e w' ⟨rfl, rfl⟩
      go_wp2_with fail
      refine (HG2.out _).mono ?_
      rintro e w' ⟨rfl, rfl⟩
      go_wp2_with fail
      refine (HN1.out (by omega) _).mono ?_
      rintro e w' ⟨rfl, rfl⟩
      go_wp2
      refine bodyPost_ret (results_tmp4 rfl _ _ _) rfl ?_
      first
        | exact ⟨rfl, (by repeat (first | exact Below.refl _ _ | apply below_drewN))⟩
        | exact ⟨Or.inl rfl, (by repeat (first | exact Below.refl _ _ | apply below_drewN))⟩
        | exact ⟨Or.inl ⟨by simp; omega, rfl⟩, (by repeat (first | exact Below.refl _ _ | apply below_drewN))⟩
  · rcases Nat.lt_or_ge (32768) q with ho | ho
    · skip
      go_enter Try.func15, Try.ntmps15
      go_wp2_with (go_at_call 21; go_in)
      refine (H1.out _).mono ?_
      rintro e w' ⟨rfl, rfl⟩
      go_wp2_with fail
      refine (H2.out _).mono ?_
      rintro e w' ⟨rfl, rfl⟩
      go_wp2_with fail
      refine (H3.out _).mono ?_
      rintro e w' ⟨rfl, rfl⟩
      go_wp2_with fail
      refine (HG1.out _).mono ?_
      rintro e w' ⟨rfl, rfl⟩
      go_wp2_with fail
      refine (HG2.out _).mono ?_
      rintro e w' ⟨rfl, rfl⟩
      go_wp2
      refine bodyPost_ret (results_tmp4 rfl _ _ _) rfl ?_
      first
        | exact ⟨rfl, (by repeat (first | exact Below.refl _ _ | apply below_drewN))⟩
        | exact ⟨Or.inr ⟨by simp; omega, rfl⟩, (by repeat (first | exact Below.refl _ _ | apply below_drewN))⟩
    · skip
      go_enter Try.func15, Try.ntmps15
      go_wp2_with (go_at_call 21; go_in)
      refine (H1.out _).mono ?_
      rintro e w' ⟨rfl, rfl⟩
      go_wp2_with fail
      refine (H2.out _).mono ?_
      rintro e w' ⟨rfl, rfl⟩
      go_wp2_with fail
      refine (H3.out _).mono ?_
      rintro e w' ⟨rfl, rfl⟩
      go_wp2_with fail
      refine (HG1.out _).mono ?_
      rintro e w' ⟨rfl, rfl⟩
      go_wp2_with fail
      refine (HG2.out _).mono ?_
      rintro e w' ⟨rfl, rfl⟩
      go_wp2_with fail
      refine (HN1.out (by omega) _).mono ?_
      rintro e w' ⟨rfl, rfl⟩
      go_wp2_with fail
      refine (HN2.out _).mono ?_
      rintro e w' ⟨rfl, rfl⟩
      go_wp2
      refine bodyPost_ret (results_tmp4 rfl _ _ _) rfl ?_
      first
        | exact ⟨rfl, (by repeat (first | exact Below.refl _ _ | apply below_drewN))⟩
        | exact ⟨Or.inl rfl, (by repeat (first | exact Below.refl _ _ | apply below_drewN))⟩
        | exact ⟨Or.inl ⟨by simp; omega, rfl⟩, (by repeat (first | exact Below.refl _ _ | apply below_drewN))⟩
  · rcases Nat.lt_or_ge (32768 - 1) q with ho | ho
    · skip
      go_enter Try.func15, Try.ntmps15
      go_wp2_with (go_at_call 21; go_in)
      refine (H1.out _).mono ?_
      rintro e w' ⟨rfl, rfl⟩
      go_wp2_with fail
      refine (H2.out _).mono ?_
      rintro e w' ⟨rfl, rfl⟩
      go_wp2_with fail
      refine (H3.out _).mono ?_
      rintro e w' ⟨rfl, rfl⟩
      go_wp2_with fail
      refine (HG1.out _).mono ?_
      rintro e w' ⟨rfl, rfl⟩
      go_wp2_with fail
      refine (HG2.out _).mono ?_
      rintro e w' ⟨rfl, rfl⟩
      go_wp2
      refine bodyPost_ret (results_tmp4 rfl _ _ _) rfl ?_
      first
        | exact ⟨rfl, (by repeat (first | exact Below.refl _ _ | apply below_drewN))⟩
        | exact ⟨Or.inr ⟨by simp; omega, rfl⟩, (by repeat (first | exact Below.refl _ _ | apply below_drewN))⟩
    · skip
      go_enter Try.func15, Try.ntmps15
      go_wp2_with (go_at_call 21; go_in)
      refine (H1.out _).mono ?_
      rintro e w' ⟨rfl, rfl⟩
      go_wp2_with fail
      refine (H2.out _).mono ?_
      rintro e w' ⟨rfl, rfl⟩
      go_wp2_with fail
      refine (H3.out _).mono ?_
      rintro e w' ⟨rfl, rfl⟩
      go_wp2_with fail
      refine (HG1.out _).mono ?_
      rintro e w' ⟨rfl, rfl⟩
      go_wp2_with fail
      refine (HG2.out _).mono ?_
      rintro e w' ⟨rfl, rfl⟩
      go_wp2_with fail
      refine (HN2.out _).mono ?_
      rintro e w' ⟨rfl, rfl⟩
      go_wp2
      refine bodyPost_ret (results_tmp4 rfl _ _ _) rfl ?_
      first
        | exact ⟨rfl, (by repeat (first | exact Below.refl _ _ | apply below_drewN))⟩
        | exact ⟨Or.inl rfl, (by repeat (first | exact Below.refl _ _ | apply below_drewN))⟩
        | exact ⟨Or.inl ⟨by simp; omega, rfl⟩, (by repeat (first | exact Below.refl _ _ | apply below_drewN))⟩

end Go.Proofs.Ytfjjipkieecpcaa
