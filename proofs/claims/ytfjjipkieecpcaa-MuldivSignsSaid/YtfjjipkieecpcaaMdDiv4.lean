/- The program's Div of size 4, signed. -/
import Derived.Test.YtfjjipkieecpcaaMdDivB
namespace Go.Proofs.Ytfjjipkieecpcaa
open Go.RowKit Pl
set_option linter.unusedVariables false

theorem divE_no {b n d : Nat} {c : Bool} {e : Ending} (eo : divOk true b n d = !c) (sp : true = c) (he : e = .returned (.tuple #[.int .u32 0, .int .u32 0, .bool false, .int .i64 0])) : DivE true b n d e := by
  refine .inr ⟨?_, he⟩
  rw [eo, ← sp]
  rfl
theorem divE_yes {b n d a k : Nat} {c : Bool} {e : Ending} (eo : divOk true b n d = !c) (sp : false = c) (eq : divQ true b n d = a) (er : divR true b n d = k)
    (he : e = .returned (.tuple #[.int .u32 (a : Int), .int .u32 (k : Int), .bool true, .int .i64 0])) : DivE true b n d e := by
  refine .inl ⟨?_, ?_⟩
  · rw [eo, ← sp]
    rfl
  · rw [eq, er]
    exact he
theorem wrap64_inA {V : Int} (h : -9223372036854775808 ≤ V ∧ V ≤ 9223372036854775807) : wrap64 V = V := by
  unfold wrap64
  omega
theorem wrap64_in2 {V : Int} (h : -2147483648 ≤ V ∧ V ≤ 2147483648) : wrap64 V = V := by
  unfold wrap64
  omega
theorem u32_of {V : Int} {M1 : Nat} (m1 : (M1 : Int) = V % 18446744073709551616) : IntKind.u32.wrap V = ((M1 % 4294967296 : Nat) : Int) := by
  show V % 4294967296 = _
  omega
theorem tmod_in {W : Int} {s : Bool} {r : Nat} (hr : r ≤ 2147483648) (hW : W = if s then -(r : Int) else (r : Int)) : -2147483648 ≤ W ∧ W ≤ 2147483648 := by
  rw [hW]
  split <;> omega
theorem sZ_ne {Y : Int} {s : Bool} {m : Nat} (h : 0 < m) (hY : Y = if s then -(m : Int) else (m : Int)) : Y ≠ 0 := by
  rw [hY]
  split <;> omega
theorem sdiv_prog' (b M : Nat) (q r : Nat) (s t : Bool) (V W : Int) (M1 M2 : Nat) (hM : M = 2 ^ b) (hb : wB b) (hq : q ≤ 2 ^ (2 * b - 1)) (hr : r ≤ 2 ^ (b - 1))
    (hV : V = if s == t then (q : Int) else -(q : Int)) (hW : W = if s then -(r : Int) else (r : Int)) (h1 : (M1 : Int) = V % 18446744073709551616) (h2 : (M2 : Int) = W % 18446744073709551616) :
    (V != sZ (M1 % 4294967296 % M) b) = (if s == t then decide (2 ^ (b - 1) - 1 < q) else decide (2 ^ (b - 1) < q)) ∧
    ((V != sZ (M1 % 4294967296 % M) b) = false → M1 % M = (if s == t then q else negN q b)) ∧ M2 % M = (if s then negN r b else r) := by
  subst hM
  exact sdiv_prog b q r s t V W M1 M2 hb hq hr hV hW h1 h2
theorem not_min {X Y : Int} (h : ¬ (Y = -1 ∧ X = -9223372036854775808)) : (Y == -1) = true ∧ (X == -9223372036854775808) = false ∨ (Y == -1) = false := by
  by_cases a : Y = -1
  · left
    constructor
    · simp [a]
    · simp only [beq_eq_false_iff_ne, ne_eq]
      exact fun b => h ⟨a, b⟩
  · right
    simpa using a
theorem le_pow {m : Nat} (h : m ≤ 2 ^ (64 - 1)) : m ≤ 9223372036854775808 := h
theorem le_pow2 {m : Nat} (h : m ≤ 2 ^ (32 - 1)) : m ≤ 2147483648 := h
theorem le_pow3 {X : Int} (h : X ≤ 2 ^ (64 - 1) - 1) : X ≤ 9223372036854775807 := h
theorem not_not {c : Bool} (h : (!c) = false) : true = c := by
  cases c
  · exact absurd h (by decide)
  · rfl

set_option maxRecDepth 20000 in
set_option maxHeartbeats 1000000 in
theorem div4_zero (l h d x y : Nat) (hl : l < 4294967296) (hh : h < 4294967296) (hd : d < 4294967296) (hx : x < 4294967296) (hy : y < 4294967296)
    (V1 : ∀ w, Calls Try.prog 19 #[.int .u64 32, .int .u64 (h : Int)] w fun e w' => e = .returned (.int .u64 (x : Int)) ∧ w = w')
    (V2 : ∀ w, Calls Try.prog 19 #[.int .u64 32, .int .u64 (l : Int)] w fun e w' => e = .returned (.int .u64 (y : Int)) ∧ w = w')
    (V3 : ∀ w, Calls Try.prog 19 #[.int .u64 32, .int .u64 (d : Int)] w fun e w' => e = .returned (.int .u64 0) ∧ w = w') (w : World) :
    Calls Try.prog 14 #[.bool true, .int .i64 4, .int .u32 l, .int .u32 h, .int .u32 d] w fun e w' => e = .returned (.tuple #[.int .u32 0, .int .u32 0, .bool false, .int .i64 0]) ∧ Below w.heap.size w w' := by
  have LK := hide (sign_at w).2.2
  have H1 := hide V1
  have H2 := hide V2
  have H3 := hide V3
  clear V1 V2 V3
  go_enter Try.func14, Try.ntmps14
  go_wp2_with fail
  refine (signs_ok _).mono ?_
  rintro e w' ⟨rfl, rfl⟩
  go_wp2_with fail
  rw [LK.out]
  go_wp2_with fail
  refine (H1.out _).mono ?_
  rintro e w' ⟨rfl, rfl⟩
  go_wp2_with fail
  refine (H2.out _).mono ?_
  rintro e w' ⟨rfl, rfl⟩
  go_wp2_with fail
  refine (H3.out _).mono ?_
  rintro e w' ⟨rfl, rfl⟩
  go_wp2
  refine bodyPost_ret (results_tmp4 rfl _ _ _) rfl ?_
  exact ⟨rfl, (Below.refl _ _).alloc (Nat.le_refl _) _⟩
set_option maxRecDepth 20000 in
set_option maxHeartbeats 1000000 in
theorem div4_min (l h d x y N D : Nat) (hl : l < 4294967296) (hh : h < 4294967296) (hd : d < 4294967296)
    (hx : x < 4294967296) (hy : y < 4294967296) (hz : D < 4294967296) (hN : N < 18446744073709551616)
    (eN : bits .or .u64 ((x : Int) * 4294967296) (y : Int) = (N : Int)) (d1 : ((D : Int) == 0) = false)
    (V1 : ∀ w, Calls Try.prog 19 #[.int .u64 32, .int .u64 (h : Int)] w fun e w' => e = .returned (.int .u64 (x : Int)) ∧ w = w')
    (V2 : ∀ w, Calls Try.prog 19 #[.int .u64 32, .int .u64 (l : Int)] w fun e w' => e = .returned (.int .u64 (y : Int)) ∧ w = w')
    (V3 : ∀ w, Calls Try.prog 19 #[.int .u64 32, .int .u64 (d : Int)] w fun e w' => e = .returned (.int .u64 (D : Int)) ∧ w = w')
    (S1 : ∀ w, Calls Try.prog 34 #[.int .u32 (d : Int)] w fun e w' => e = .returned (.int .i64 (-1)) ∧ w = w')
    (wX : wrap64 (N : Int) = -9223372036854775808) (w : World) :
    Calls Try.prog 14 #[.bool true, .int .i64 4, .int .u32 l, .int .u32 h, .int .u32 d] w fun e w' => e = .returned (.tuple #[.int .u32 0, .int .u32 0, .bool false, .int .i64 0]) ∧ Below w.heap.size w w' := by
  have LK := hide (sign_at w).2.2
  have H1 := hide V1
  have H2 := hide V2
  have H3 := hide V3
  have HS1 := hide S1
  clear V1 V2 V3 S1
  go_enter Try.func14, Try.ntmps14
  go_wp2_with fail
  refine (signs_ok _).mono ?_
  rintro e w' ⟨rfl, rfl⟩
  go_wp2_with fail
  rw [LK.out]
  go_wp2_with fail
  refine (H1.out _).mono ?_
  rintro e w' ⟨rfl, rfl⟩
  go_wp2_with fail
  refine (H2.out _).mono ?_
  rintro e w' ⟨rfl, rfl⟩
  go_wp2_with fail
  refine (H3.out _).mono ?_
  rintro e w' ⟨rfl, rfl⟩
  go_wp2_with fail
  refine (HS1.out _).mono ?_
  rintro e w' ⟨rfl, rfl⟩
  go_wp2
  refine bodyPost_ret (results_tmp4 rfl _ _ _) rfl ?_
  exact ⟨rfl, (Below.refl _ _).alloc (Nat.le_refl _) _⟩
set_option maxRecDepth 20000 in
set_option maxHeartbeats 1000000 in
theorem div4_over_a (l h d x y N D : Nat) (X Y : Int) (hl : l < 4294967296) (hh : h < 4294967296) (hd : d < 4294967296)
    (hx : x < 4294967296) (hy : y < 4294967296) (hz : D < 4294967296) (hN : N < 18446744073709551616)
    (eN : bits .or .u64 ((x : Int) * 4294967296) (y : Int) = (N : Int)) (d1 : ((D : Int) == 0) = false)
    (V1 : ∀ w, Calls Try.prog 19 #[.int .u64 32, .int .u64 (h : Int)] w fun e w' => e = .returned (.int .u64 (x : Int)) ∧ w = w')
    (V2 : ∀ w, Calls Try.prog 19 #[.int .u64 32, .int .u64 (l : Int)] w fun e w' => e = .returned (.int .u64 (y : Int)) ∧ w = w')
    (V3 : ∀ w, Calls Try.prog 19 #[.int .u64 32, .int .u64 (d : Int)] w fun e w' => e = .returned (.int .u64 (D : Int)) ∧ w = w')
    (S1 : ∀ w, Calls Try.prog 34 #[.int .u32 (d : Int)] w fun e w' => e = .returned (.int .i64 Y) ∧ w = w')
    (wX : wrap64 (N : Int) = X) (hY0 : Y ≠ 0)
    (V W sm : Int) (u1 : Nat) (hV : X.tdiv Y = V) (hW : X.tmod Y = W) (hwV : wrap64 V = V) (hwW : wrap64 W = W) (eU2 : IntKind.u32.wrap V = (u1 : Int)) (hu1 : u1 < 4294967296)
    (S3 : ∀ w, Calls Try.prog 34 #[.int .u32 (u1 : Int)] w fun e w' => e = .returned (.int .i64 sm) ∧ w = w') (ho : (V != sm) = true) (hy1 : (Y == -1) = true) (hx1 : (X == -9223372036854775808) = false) (w : World) :
    Calls Try.prog 14 #[.bool true, .int .i64 4, .int .u32 l, .int .u32 h, .int .u32 d] w fun e w' => e = .returned (.tuple #[.int .u32 0, .int .u32 0, .bool false, .int .i64 0]) ∧ Below w.heap.size w w' := by
  have LK := hide (sign_at w).2.2
  have H1 := hide V1
  have H2 := hide V2
  have H3 := hide V3
  have HS1 := hide S1
  have HS3 := hide S3
  clear V1 V2 V3 S1 S3
  go_enter Try.func14, Try.ntmps14
  go_wp2_with fail
  refine (signs_ok _).mono ?_
  rintro e w' ⟨rfl, rfl⟩
  go_wp2_with fail
  rw [LK.out]
  go_wp2_with fail
  refine (H1.out _).mono ?_
  rintro e w' ⟨rfl, rfl⟩
  go_wp2_with fail
  refine (H2.out _).mono ?_
  rintro e w' ⟨rfl, rfl⟩
  go_wp2_with fail
  refine (H3.out _).mono ?_
  rintro e w' ⟨rfl, rfl⟩
  go_wp2_with fail
  refine (HS1.out _).mono ?_
  rintro e w' ⟨rfl, rfl⟩
  go_wp2_with fail
  go_quiet ((go_at_call 34; with_reducible exact quiet_left (HS3.out _)))
  go_wp2
  refine bodyPost_ret (results_tmp4 rfl _ _ _) rfl ?_
  exact ⟨rfl, by repeat (first | exact (Below.refl _ _).alloc (Nat.le_refl _) _ | apply below_drewN)⟩
set_option maxRecDepth 20000 in
set_option maxHeartbeats 1000000 in
theorem div4_in_a (l h d x y N D : Nat) (X Y : Int) (hl : l < 4294967296) (hh : h < 4294967296) (hd : d < 4294967296)
    (hx : x < 4294967296) (hy : y < 4294967296) (hz : D < 4294967296) (hN : N < 18446744073709551616)
    (eN : bits .or .u64 ((x : Int) * 4294967296) (y : Int) = (N : Int)) (d1 : ((D : Int) == 0) = false)
    (V1 : ∀ w, Calls Try.prog 19 #[.int .u64 32, .int .u64 (h : Int)] w fun e w' => e = .returned (.int .u64 (x : Int)) ∧ w = w')
    (V2 : ∀ w, Calls Try.prog 19 #[.int .u64 32, .int .u64 (l : Int)] w fun e w' => e = .returned (.int .u64 (y : Int)) ∧ w = w')
    (V3 : ∀ w, Calls Try.prog 19 #[.int .u64 32, .int .u64 (d : Int)] w fun e w' => e = .returned (.int .u64 (D : Int)) ∧ w = w')
    (S1 : ∀ w, Calls Try.prog 34 #[.int .u32 (d : Int)] w fun e w' => e = .returned (.int .i64 Y) ∧ w = w')
    (wX : wrap64 (N : Int) = X) (hY0 : Y ≠ 0)
    (V W sm : Int) (u1 : Nat) (hV : X.tdiv Y = V) (hW : X.tmod Y = W) (hwV : wrap64 V = V) (hwW : wrap64 W = W) (eU2 : IntKind.u32.wrap V = (u1 : Int)) (hu1 : u1 < 4294967296)
    (S3 : ∀ w, Calls Try.prog 34 #[.int .u32 (u1 : Int)] w fun e w' => e = .returned (.int .i64 sm) ∧ w = w') (q r : Nat) (hq : q < 4294967296) (hr : r < 4294967296) (ho : (V != sm) = false)
    (M1 M2 : Nat) (hM1 : IntKind.u64.wrap V = (M1 : Int)) (hM2 : IntKind.u64.wrap W = (M2 : Int)) (l1 : M1 < 18446744073709551616) (l2 : M2 < 18446744073709551616)
    (V5 : ∀ w, Calls Try.prog 19 #[.int .u64 32, .int .u64 (M1 : Int)] w fun e w' => e = .returned (.int .u64 (q : Int)) ∧ w = w')
    (V6 : ∀ w, Calls Try.prog 19 #[.int .u64 32, .int .u64 (M2 : Int)] w fun e w' => e = .returned (.int .u64 (r : Int)) ∧ w = w')
    (V5b : ∀ w, Calls Try.prog 19 #[.int .u64 32, .int .u64 (V % 18446744073709551616)] w fun e w' => e = .returned (.int .u64 (q : Int)) ∧ w = w')
    (V6b : ∀ w, Calls Try.prog 19 #[.int .u64 32, .int .u64 (W % 18446744073709551616)] w fun e w' => e = .returned (.int .u64 (r : Int)) ∧ w = w') (hy1 : (Y == -1) = true) (hx1 : (X == -9223372036854775808) = false) (w : World) :
    Calls Try.prog 14 #[.bool true, .int .i64 4, .int .u32 l, .int .u32 h, .int .u32 d] w fun e w' => e = .returned (.tuple #[.int .u32 (q : Int), .int .u32 (r : Int), .bool true, .int .i64 0]) ∧ Below w.heap.size w w' := by
  have LK := hide (sign_at w).2.2
  have H1 := hide V1
  have H2 := hide V2
  have H3 := hide V3
  have HS1 := hide S1
  have HS3 := hide S3
  have HV5 := hide V5
  have HV6 := hide V6
  have HV5b := hide V5b
  have HV6b := hide V6b
  clear V1 V2 V3 S1 S3 V5 V6 V5b V6b
  go_enter Try.func14, Try.ntmps14
  go_wp2_with fail
  refine (signs_ok _).mono ?_
  rintro e w' ⟨rfl, rfl⟩
  go_wp2_with fail
  rw [LK.out]
  go_wp2_with fail
  refine (H1.out _).mono ?_
  rintro e w' ⟨rfl, rfl⟩
  go_wp2_with fail
  refine (H2.out _).mono ?_
  rintro e w' ⟨rfl, rfl⟩
  go_wp2_with fail
  refine (H3.out _).mono ?_
  rintro e w' ⟨rfl, rfl⟩
  go_wp2_with fail
  refine (HS1.out _).mono ?_
  rintro e w' ⟨rfl, rfl⟩
  go_wp2_with fail
  go_quiet ((go_at_call 34; with_reducible exact quiet_left (HS3.out _)))
  go_wp2_with fail
  go_quiet ((go_at_call 19; first | (with_reducible exact quiet_add_left (HV5b.out _)) | (with_reducible exact quiet_add_left (HV6b.out _)) | (with_reducible exact quiet_add_left (HV5.out _)) | (with_reducible exact quiet_add_left (HV6.out _)) | (with_reducible exact quiet_left (HV5.out _)) | (with_reducible exact quiet_left (HV6.out _))))
  go_wp2
  refine bodyPost_ret (results_tmp4 rfl _ _ _) rfl ?_
  exact ⟨rfl, by repeat (first | exact (Below.refl _ _).alloc (Nat.le_refl _) _ | apply below_drewN)⟩
set_option maxRecDepth 20000 in
set_option maxHeartbeats 1000000 in
theorem div4_over_b (l h d x y N D : Nat) (X Y : Int) (hl : l < 4294967296) (hh : h < 4294967296) (hd : d < 4294967296)
    (hx : x < 4294967296) (hy : y < 4294967296) (hz : D < 4294967296) (hN : N < 18446744073709551616)
    (eN : bits .or .u64 ((x : Int) * 4294967296) (y : Int) = (N : Int)) (d1 : ((D : Int) == 0) = false)
    (V1 : ∀ w, Calls Try.prog 19 #[.int .u64 32, .int .u64 (h : Int)] w fun e w' => e = .returned (.int .u64 (x : Int)) ∧ w = w')
    (V2 : ∀ w, Calls Try.prog 19 #[.int .u64 32, .int .u64 (l : Int)] w fun e w' => e = .returned (.int .u64 (y : Int)) ∧ w = w')
    (V3 : ∀ w, Calls Try.prog 19 #[.int .u64 32, .int .u64 (d : Int)] w fun e w' => e = .returned (.int .u64 (D : Int)) ∧ w = w')
    (S1 : ∀ w, Calls Try.prog 34 #[.int .u32 (d : Int)] w fun e w' => e = .returned (.int .i64 Y) ∧ w = w')
    (wX : wrap64 (N : Int) = X) (hY0 : Y ≠ 0)
    (V W sm : Int) (u1 : Nat) (hV : X.tdiv Y = V) (hW : X.tmod Y = W) (hwV : wrap64 V = V) (hwW : wrap64 W = W) (eU2 : IntKind.u32.wrap V = (u1 : Int)) (hu1 : u1 < 4294967296)
    (S3 : ∀ w, Calls Try.prog 34 #[.int .u32 (u1 : Int)] w fun e w' => e = .returned (.int .i64 sm) ∧ w = w') (ho : (V != sm) = true) (hy1 : (Y == -1) = false) (w : World) :
    Calls Try.prog 14 #[.bool true, .int .i64 4, .int .u32 l, .int .u32 h, .int .u32 d] w fun e w' => e = .returned (.tuple #[.int .u32 0, .int .u32 0, .bool false, .int .i64 0]) ∧ Below w.heap.size w w' := by
  have LK := hide (sign_at w).2.2
  have H1 := hide V1
  have H2 := hide V2
  have H3 := hide V3
  have HS1 := hide S1
  have HS3 := hide S3
  clear V1 V2 V3 S1 S3
  go_enter Try.func14, Try.ntmps14
  go_wp2_with fail
  refine (signs_ok _).mono ?_
  rintro e w' ⟨rfl, rfl⟩
  go_wp2_with fail
  rw [LK.out]
  go_wp2_with fail
  refine (H1.out _).mono ?_
  rintro e w' ⟨rfl, rfl⟩
  go_wp2_with fail
  refine (H2.out _).mono ?_
  rintro e w' ⟨rfl, rfl⟩
  go_wp2_with fail
  refine (H3.out _).mono ?_
  rintro e w' ⟨rfl, rfl⟩
  go_wp2_with fail
  refine (HS1.out _).mono ?_
  rintro e w' ⟨rfl, rfl⟩
  go_wp2_with fail
  go_quiet ((go_at_call 34; with_reducible exact quiet_left (HS3.out _)))
  go_wp2
  refine bodyPost_ret (results_tmp4 rfl _ _ _) rfl ?_
  exact ⟨rfl, by repeat (first | exact (Below.refl _ _).alloc (Nat.le_refl _) _ | apply below_drewN)⟩
set_option maxRecDepth 20000 in
set_option maxHeartbeats 1000000 in
theorem div4_in_b (l h d x y N D : Nat) (X Y : Int) (hl : l < 4294967296) (hh : h < 4294967296) (hd : d < 4294967296)
    (hx : x < 4294967296) (hy : y < 4294967296) (hz : D < 4294967296) (hN : N < 18446744073709551616)
    (eN : bits .or .u64 ((x : Int) * 4294967296) (y : Int) = (N : Int)) (d1 : ((D : Int) == 0) = false)
    (V1 : ∀ w, Calls Try.prog 19 #[.int .u64 32, .int .u64 (h : Int)] w fun e w' => e = .returned (.int .u64 (x : Int)) ∧ w = w')
    (V2 : ∀ w, Calls Try.prog 19 #[.int .u64 32, .int .u64 (l : Int)] w fun e w' => e = .returned (.int .u64 (y : Int)) ∧ w = w')
    (V3 : ∀ w, Calls Try.prog 19 #[.int .u64 32, .int .u64 (d : Int)] w fun e w' => e = .returned (.int .u64 (D : Int)) ∧ w = w')
    (S1 : ∀ w, Calls Try.prog 34 #[.int .u32 (d : Int)] w fun e w' => e = .returned (.int .i64 Y) ∧ w = w')
    (wX : wrap64 (N : Int) = X) (hY0 : Y ≠ 0)
    (V W sm : Int) (u1 : Nat) (hV : X.tdiv Y = V) (hW : X.tmod Y = W) (hwV : wrap64 V = V) (hwW : wrap64 W = W) (eU2 : IntKind.u32.wrap V = (u1 : Int)) (hu1 : u1 < 4294967296)
    (S3 : ∀ w, Calls Try.prog 34 #[.int .u32 (u1 : Int)] w fun e w' => e = .returned (.int .i64 sm) ∧ w = w') (q r : Nat) (hq : q < 4294967296) (hr : r < 4294967296) (ho : (V != sm) = false)
    (M1 M2 : Nat) (hM1 : IntKind.u64.wrap V = (M1 : Int)) (hM2 : IntKind.u64.wrap W = (M2 : Int)) (l1 : M1 < 18446744073709551616) (l2 : M2 < 18446744073709551616)
    (V5 : ∀ w, Calls Try.prog 19 #[.int .u64 32, .int .u64 (M1 : Int)] w fun e w' => e = .returned (.int .u64 (q : Int)) ∧ w = w')
    (V6 : ∀ w, Calls Try.prog 19 #[.int .u64 32, .int .u64 (M2 : Int)] w fun e w' => e = .returned (.int .u64 (r : Int)) ∧ w = w')
    (V5b : ∀ w, Calls Try.prog 19 #[.int .u64 32, .int .u64 (V % 18446744073709551616)] w fun e w' => e = .returned (.int .u64 (q : Int)) ∧ w = w')
    (V6b : ∀ w, Calls Try.prog 19 #[.int .u64 32, .int .u64 (W % 18446744073709551616)] w fun e w' => e = .returned (.int .u64 (r : Int)) ∧ w = w') (hy1 : (Y == -1) = false) (w : World) :
    Calls Try.prog 14 #[.bool true, .int .i64 4, .int .u32 l, .int .u32 h, .int .u32 d] w fun e w' => e = .returned (.tuple #[.int .u32 (q : Int), .int .u32 (r : Int), .bool true, .int .i64 0]) ∧ Below w.heap.size w w' := by
  have LK := hide (sign_at w).2.2
  have H1 := hide V1
  have H2 := hide V2
  have H3 := hide V3
  have HS1 := hide S1
  have HS3 := hide S3
  have HV5 := hide V5
  have HV6 := hide V6
  have HV5b := hide V5b
  have HV6b := hide V6b
  clear V1 V2 V3 S1 S3 V5 V6 V5b V6b
  go_enter Try.func14, Try.ntmps14
  go_wp2_with fail
  refine (signs_ok _).mono ?_
  rintro e w' ⟨rfl, rfl⟩
  go_wp2_with fail
  rw [LK.out]
  go_wp2_with fail
  refine (H1.out _).mono ?_
  rintro e w' ⟨rfl, rfl⟩
  go_wp2_with fail
  refine (H2.out _).mono ?_
  rintro e w' ⟨rfl, rfl⟩
  go_wp2_with fail
  refine (H3.out _).mono ?_
  rintro e w' ⟨rfl, rfl⟩
  go_wp2_with fail
  refine (HS1.out _).mono ?_
  rintro e w' ⟨rfl, rfl⟩
  go_wp2_with fail
  go_quiet ((go_at_call 34; with_reducible exact quiet_left (HS3.out _)))
  go_wp2_with fail
  go_quiet ((go_at_call 19; first | (with_reducible exact quiet_add_left (HV5b.out _)) | (with_reducible exact quiet_add_left (HV6b.out _)) | (with_reducible exact quiet_add_left (HV5.out _)) | (with_reducible exact quiet_add_left (HV6.out _)) | (with_reducible exact quiet_left (HV5.out _)) | (with_reducible exact quiet_left (HV6.out _))))
  go_wp2
  refine bodyPost_ret (results_tmp4 rfl _ _ _) rfl ?_
  exact ⟨rfl, by repeat (first | exact (Below.refl _ _).alloc (Nat.le_refl _) _ | apply below_drewN)⟩
set_option maxRecDepth 20000 in
set_option maxHeartbeats 1000000 in
theorem div4_true (l h d : Nat) (hl : l < 4294967296) (hh : h < 4294967296) (hd : d < 4294967296) (w : World) :
    Calls Try.prog 14 #[.bool true, .int .i64 4, .int .u32 l, .int .u32 h, .int .u32 d] w fun e w' => DivE true 32 (h % 4294967296 * 4294967296 + l % 4294967296) (d % 4294967296) e ∧ Below w.heap.size w w' := by
  have V1 : ∀ w, Calls Try.prog 19 #[.int .u64 32, .int .u64 (h : Int)] w fun e w' => e = .returned (.int .u64 ((h % 4294967296 : Nat) : Int)) ∧ w = w' := fun w => mdvalue_ok 32 h (by omega) (by omega) (by omega) w
  have V2 : ∀ w, Calls Try.prog 19 #[.int .u64 32, .int .u64 (l : Int)] w fun e w' => e = .returned (.int .u64 ((l % 4294967296 : Nat) : Int)) ∧ w = w' := fun w => mdvalue_ok 32 l (by omega) (by omega) (by omega) w
  have V3 : ∀ w, Calls Try.prog 19 #[.int .u64 32, .int .u64 (d : Int)] w fun e w' => e = .returned (.int .u64 ((d % 4294967296 : Nat) : Int)) ∧ w = w' := fun w => mdvalue_ok 32 d (by omega) (by omega) (by omega) w
  have S1 : ∀ w, Calls Try.prog 34 #[.int .u32 (d : Int)] w fun e w' => e = .returned (.int .i64 (sZ (d % 4294967296) 32)) ∧ w = w' := fun w => wide32_ok d (by omega) w
  have S2 : ∀ (k : Nat), ∀ w, Calls Try.prog 34 #[.int .u32 ((k % 4294967296 : Nat) : Int)] w fun e w' => e = .returned (.int .i64 (sZ (k % 4294967296 % 4294967296) 32)) ∧ w = w' := fun k w => wide32_ok ((k % 4294967296 : Nat) : Int) (by omega) w
  have V4 : ∀ (z : Int) (M1 : Nat), M1 < 18446744073709551616 → (M1 : Int) = z → ∀ w, Calls Try.prog 19 #[.int .u64 32, .int .u64 z] w fun e w' => e = .returned (.int .u64 ((M1 % 4294967296 : Nat) : Int)) ∧ w = w' := by
    intro z M1 h1 hz w
    subst hz
    exact mdvalue_ok 32 (M1 : Int) (by omega) (by omega) (by omega) w
  have hx : h % 4294967296 < 4294967296 := Nat.mod_lt _ (by decide)
  have hy : l % 4294967296 < 4294967296 := Nat.mod_lt _ (by decide)
  have hz : d % 4294967296 < 4294967296 := Nat.mod_lt _ (by decide)
  generalize h % 4294967296 = x at *
  generalize l % 4294967296 = y at *
  generalize d % 4294967296 = D at *
  have eN : bits .or .u64 ((x : Int) * 4294967296) (y : Int) = ((x * 4294967296 + y : Nat) : Int) := or_two' x y 32 4294967296 4294967296 (by decide) (by decide) (by decide) hx hy
  have hN : x * 4294967296 + y < 18446744073709551616 := by omega
  generalize x * 4294967296 + y = N at *
  rcases Nat.eq_zero_or_pos D with hD | hD
  · subst hD
    exact (div4_zero l h d x y hl hh hd hx hy V1 V2 V3 w).mono fun e w' k => ⟨.inr ⟨by simp [divOk], k.1⟩, k.2⟩
  have d0 : D ≠ 0 := Nat.ne_of_gt hD
  have d1 : ((D : Int) == 0) = false := by simp; exact d0
  have nP : magN N 64 ≤ 2 ^ (64 - 1) := magN_le N 64 (by unfold wB2; decide) hN
  have nQ : magN D 32 ≤ 2 ^ (32 - 1) := magN_le D 32 (by unfold wB2; decide) hz
  have pQ : 0 < magN D 32 := mag_pos D 32 hz d0
  have sX := sZ_mag N 64 hN
  have sY := sZ_mag D 32 hz
  have wX := wideX32 N hN
  have tm := tdiv_mag (sZ N 64) (sZ D 32) (magN N 64) (magN D 32) (sgn N 64) (sgn D 32) sX sY
  have hY0 : sZ D 32 ≠ 0 := sZ_ne pQ sY
  have eo := divOk_sg 32 64 N D (by decide) d0
  by_cases hmin : sZ D 32 = -1 ∧ sZ N 64 = -9223372036854775808
  · rw [sY, sX] at hmin
    have hov := not_not (min_over _ _ 32 _ _ (by decide) nP hmin.1 hmin.2)
    rw [← sY, ← sX] at hmin
    rw [hmin.1] at S1
    rw [hmin.2] at wX
    exact (div4_min l h d x y N D hl hh hd hx hy hz hN eN d1 V1 V2 V3 S1 wX w).mono fun e w' k => ⟨divE_no eo hov k.1, k.2⟩
  · have y1 := not_min hmin
    have hX2 := sZ_top N 64 (by unfold wB2; decide) hN
    have bv := div_wrap (magN N 64) (magN D 32) (sgn N 64) (sgn D 32) (sZ N 64) (sZ D 32) _ (le_pow nP) sX sY (le_pow3 hX2.1) pQ tm.1 hmin
    have hr : magN N 64 % magN D 32 ≤ 2 ^ (32 - 1) := Nat.le_trans (Nat.le_of_lt (Nat.mod_lt _ pQ)) nQ
    have hq : magN N 64 / magN D 32 ≤ 2 ^ (64 - 1) := Nat.le_trans (Nat.div_le_self _ _) nP
    have bw := tmod_in (le_pow2 hr) tm.2
    have hwV := wrap64_inA bv
    have hwW := wrap64_in2 bw
    have eq := divQ_sg 32 64 N D (by decide)
    have er := divR_sg 32 64 N D (by decide)
    obtain ⟨M1, hM1, l1, m1⟩ := wrap_u64 ((sZ N 64).tdiv (sZ D 32))
    obtain ⟨M2, hM2, l2, m2⟩ := wrap_u64 ((sZ N 64).tmod (sZ D 32))
    have sp := sdiv_prog' 32 4294967296 _ _ _ _ _ _ M1 M2 (by decide) (by unfold wB; decide) hq hr tm.1 tm.2 m1 m2
    have eU2 := u32_of m1
    have V5 := V4 _ M1 l1 rfl
    have V6 := V4 _ M2 l2 rfl
    have V5b := V4 _ M1 l1 m1
    have V6b := V4 _ M2 l2 m2
    have hR2 : M2 % 4294967296 < 4294967296 := Nat.mod_lt _ (by decide)
    have hQ2 : M1 % 4294967296 < 4294967296 := Nat.mod_lt _ (by decide)
    rcases Bool.eq_false_or_eq_true ((sZ N 64).tdiv (sZ D 32) != sZ (M1 % 4294967296 % 4294967296) 32) with ho | ho
    · rcases y1 with ⟨y1, x1⟩ | y1
      · exact (div4_over_a l h d x y N D _ _ hl hh hd hx hy hz hN eN d1 V1 V2 V3 S1 wX hY0 _ _ _ _ rfl rfl hwV hwW eU2 hQ2 (S2 M1) ho y1 x1 w).mono fun e w' k => ⟨divE_no eo (ho.symm.trans sp.1) k.1, k.2⟩
      · exact (div4_over_b l h d x y N D _ _ hl hh hd hx hy hz hN eN d1 V1 V2 V3 S1 wX hY0 _ _ _ _ rfl rfl hwV hwW eU2 hQ2 (S2 M1) ho y1 w).mono fun e w' k => ⟨divE_no eo (ho.symm.trans sp.1) k.1, k.2⟩
    · have eq2 := eq.trans (sp.2.1 ho).symm
      have er2 := er.trans sp.2.2.symm
      rcases y1 with ⟨y1, x1⟩ | y1
      · exact (div4_in_a l h d x y N D _ _ hl hh hd hx hy hz hN eN d1 V1 V2 V3 S1 wX hY0 _ _ _ _ rfl rfl hwV hwW eU2 hQ2 (S2 M1) _ _ hQ2 hR2 ho M1 M2 hM1 hM2 l1 l2 V5 V6 V5b V6b y1 x1 w).mono fun e w' k => ⟨divE_yes eo (ho.symm.trans sp.1) eq2 er2 k.1, k.2⟩
      · exact (div4_in_b l h d x y N D _ _ hl hh hd hx hy hz hN eN d1 V1 V2 V3 S1 wX hY0 _ _ _ _ rfl rfl hwV hwW eU2 hQ2 (S2 M1) _ _ hQ2 hR2 ho M1 M2 hM1 hM2 l1 l2 V5 V6 V5b V6b y1 w).mono fun e w' k => ⟨divE_yes eo (ho.symm.trans sp.1) eq2 er2 k.1, k.2⟩
end Go.Proofs.Ytfjjipkieecpcaa
