/- The document's Div of size 4. -/
import Derived.Test.YtfjjipkieecpcaaMdRef
import Derived.Test.YtfjjipkieecpcaaMdDivB
namespace Go.Proofs.Ytfjjipkieecpcaa
open Go.RowKit Pl
set_option linter.unusedVariables false

theorem negN_lt4 (q b M : Nat) (hM : M = 2 ^ b) (h0 : 0 < M) : negN q b < M := by
  subst hM
  exact Nat.mod_lt _ h0


theorem divE_over {b n d q L : Nat} {s t : Bool} {e : Ending} (eo : divOk true b n d = !(if s == t then decide (L - 1 < q) else decide (L < q)))
    (ho : (s == t) = true ∧ L - 1 < q ∨ (s == t) = false ∧ L < q) (he : e = .returned (.tuple #[.int .u32 0, .int .u32 0, .bool false, .int .i64 0])) : DivE true b n d e := by
  refine .inr ⟨?_, he⟩
  rw [eo]
  rcases ho with ⟨h1, h2⟩ | ⟨h1, h2⟩ <;> rw [h1] <;> simp [h2]
theorem divE_in {b n d q nq r nr a c L : Nat} {s t : Bool} {e : Ending} (eo : divOk true b n d = !(if s == t then decide (L - 1 < q) else decide (L < q)))
    (eq : divQ true b n d = if s == t then q else nq) (er : divR true b n d = if s then nr else r)
    (ho : (s == t) = true ∧ q ≤ L - 1 ∧ a = q ∨ (s == t) = false ∧ q ≤ L ∧ a = nq) (hc : s = true ∧ c = nr ∨ s = false ∧ c = r)
    (he : e = .returned (.tuple #[.int .u32 (a : Int), .int .u32 (c : Int), .bool true, .int .i64 0])) : DivE true b n d e := by
  have e2 : divR true b n d = c := by
    rw [er]
    rcases hc with ⟨rfl, rfl⟩ | ⟨rfl, rfl⟩ <;> simp
  have e1 : divQ true b n d = a ∧ divOk true b n d = true := by
    rw [eq, eo]
    rcases ho with ⟨h1, h2, rfl⟩ | ⟨h1, h2, rfl⟩
    · rw [h1, if_pos rfl, if_pos rfl, decide_eq_false (by omega)]
      exact ⟨rfl, rfl⟩
    · rw [h1, if_neg (by decide), if_neg (by decide), decide_eq_false (by omega)]
      exact ⟨rfl, rfl⟩
  refine .inl ⟨e1.2, ?_⟩
  rw [e1.1, e2]
  exact he
theorem pow_is (b L : Nat) (hL : L = 2 ^ (b - 1)) : (2 : Nat) ^ (b - 1) = L := hL.symm

set_option maxRecDepth 20000 in
set_option maxHeartbeats 1000000 in
theorem refdiv4_ffk (l h d x y D N P Q q r nq nr : Nat) (hl : l < 4294967296) (hh : h < 4294967296) (hd : d < 4294967296) (hx : x < 4294967296) (hy : y < 4294967296) (hz : D < 4294967296) (eN : (x : Int) * 4294967296 + (y : Int) = (N : Int)) (d1 : ((D : Int) == 0) = false) (d3 : ((Q : Int) == 0) = false) (d4 : ¬ ((Q : Int) = 0)) (e1 : (P : Int) / (Q : Int) = (q : Int)) (e2 : (P : Int) % (Q : Int) = (r : Int)) (hrb : r < 4294967296) (hq64 : q < 18446744073709551616) (b1 : nq < 4294967296) (b2 : nr < 4294967296)
    (V1 : ∀ w, Calls Try.prog 22 #[.int .u64 (h : Int), .int .i64 32] w fun e w' => e = .returned (.int .u64 (x : Int)) ∧ w = w')
    (V2 : ∀ w, Calls Try.prog 22 #[.int .u64 (l : Int), .int .i64 32] w fun e w' => e = .returned (.int .u64 (y : Int)) ∧ w = w')
    (V3 : ∀ w, Calls Try.prog 22 #[.int .u64 (d : Int), .int .i64 32] w fun e w' => e = .returned (.int .u64 (D : Int)) ∧ w = w')
    (G1 : ∀ w, Calls Try.prog 23 #[.int .u64 (N : Int), .int .i64 64] w fun e w' => e = .returned (.tuple #[.int .u64 (P : Int), .bool false]) ∧ w = w')
    (G2 : ∀ w, Calls Try.prog 23 #[.int .u64 (D : Int), .int .i64 32] w fun e w' => e = .returned (.tuple #[.int .u64 (Q : Int), .bool false]) ∧ w = w')
    (N1 : q ≤ 4294967296 → ∀ w, Calls Try.prog 24 #[.int .u64 (q : Int), .int .i64 32] w fun e w' => e = .returned (.int .u64 (nq : Int)) ∧ w = w')
    (N2 : ∀ w, Calls Try.prog 24 #[.int .u64 (r : Int), .int .i64 32] w fun e w' => e = .returned (.int .u64 (nr : Int)) ∧ w = w') (ho : q ≤ 2147483647) (w : World) :
    Calls Try.prog 15 #[.bool true, .int .i64 4, .int .u32 l, .int .u32 h, .int .u32 d] w fun e w' => e = .returned (.tuple #[.int .u32 (q : Int), .int .u32 (r : Int), .bool true, .int .i64 0]) ∧ Below w.heap.size w w' := by
  have HV1 := hide V1
  have HV2 := hide V2
  have HV3 := hide V3
  have HG1 := hide G1
  have HG2 := hide G2
  have HN2 := hide N2
  clear V1 V2 V3 G1 G2 N1 N2
  go_enter Try.func15, Try.ntmps15
  go_wp2_with (go_at_call 21; go_in)
  refine (HV1.out _).mono ?_
  rintro e w' ⟨rfl, rfl⟩
  go_wp2_with fail
  refine (HV2.out _).mono ?_
  rintro e w' ⟨rfl, rfl⟩
  go_wp2_with fail
  refine (HV3.out _).mono ?_
  rintro e w' ⟨rfl, rfl⟩
  go_wp2_with fail
  refine (HG1.out _).mono ?_
  rintro e w' ⟨rfl, rfl⟩
  go_wp2_with fail
  refine (HG2.out _).mono ?_
  rintro e w' ⟨rfl, rfl⟩
  go_wp2
  refine bodyPost_ret (results_tmp4 rfl _ _ _) rfl ?_
  exact ⟨rfl, (by repeat (first | exact Below.refl _ _ | apply below_drewN))⟩
set_option maxRecDepth 20000 in
set_option maxHeartbeats 1000000 in
theorem refdiv4_ffo (l h d x y D N P Q q r nq nr : Nat) (hl : l < 4294967296) (hh : h < 4294967296) (hd : d < 4294967296) (hx : x < 4294967296) (hy : y < 4294967296) (hz : D < 4294967296) (eN : (x : Int) * 4294967296 + (y : Int) = (N : Int)) (d1 : ((D : Int) == 0) = false) (d3 : ((Q : Int) == 0) = false) (d4 : ¬ ((Q : Int) = 0)) (e1 : (P : Int) / (Q : Int) = (q : Int)) (e2 : (P : Int) % (Q : Int) = (r : Int)) (hrb : r < 4294967296) (hq64 : q < 18446744073709551616) (b1 : nq < 4294967296) (b2 : nr < 4294967296)
    (V1 : ∀ w, Calls Try.prog 22 #[.int .u64 (h : Int), .int .i64 32] w fun e w' => e = .returned (.int .u64 (x : Int)) ∧ w = w')
    (V2 : ∀ w, Calls Try.prog 22 #[.int .u64 (l : Int), .int .i64 32] w fun e w' => e = .returned (.int .u64 (y : Int)) ∧ w = w')
    (V3 : ∀ w, Calls Try.prog 22 #[.int .u64 (d : Int), .int .i64 32] w fun e w' => e = .returned (.int .u64 (D : Int)) ∧ w = w')
    (G1 : ∀ w, Calls Try.prog 23 #[.int .u64 (N : Int), .int .i64 64] w fun e w' => e = .returned (.tuple #[.int .u64 (P : Int), .bool false]) ∧ w = w')
    (G2 : ∀ w, Calls Try.prog 23 #[.int .u64 (D : Int), .int .i64 32] w fun e w' => e = .returned (.tuple #[.int .u64 (Q : Int), .bool false]) ∧ w = w')
    (N1 : q ≤ 4294967296 → ∀ w, Calls Try.prog 24 #[.int .u64 (q : Int), .int .i64 32] w fun e w' => e = .returned (.int .u64 (nq : Int)) ∧ w = w')
    (N2 : ∀ w, Calls Try.prog 24 #[.int .u64 (r : Int), .int .i64 32] w fun e w' => e = .returned (.int .u64 (nr : Int)) ∧ w = w') (ho : 2147483647 < q) (w : World) :
    Calls Try.prog 15 #[.bool true, .int .i64 4, .int .u32 l, .int .u32 h, .int .u32 d] w fun e w' => e = .returned (.tuple #[.int .u32 0, .int .u32 0, .bool false, .int .i64 0]) ∧ Below w.heap.size w w' := by
  have HV1 := hide V1
  have HV2 := hide V2
  have HV3 := hide V3
  have HG1 := hide G1
  have HG2 := hide G2
  have HN2 := hide N2
  clear V1 V2 V3 G1 G2 N1 N2
  go_enter Try.func15, Try.ntmps15
  go_wp2_with (go_at_call 21; go_in)
  refine (HV1.out _).mono ?_
  rintro e w' ⟨rfl, rfl⟩
  go_wp2_with fail
  refine (HV2.out _).mono ?_
  rintro e w' ⟨rfl, rfl⟩
  go_wp2_with fail
  refine (HV3.out _).mono ?_
  rintro e w' ⟨rfl, rfl⟩
  go_wp2_with fail
  refine (HG1.out _).mono ?_
  rintro e w' ⟨rfl, rfl⟩
  go_wp2_with fail
  refine (HG2.out _).mono ?_
  rintro e w' ⟨rfl, rfl⟩
  go_wp2
  refine bodyPost_ret (results_tmp4 rfl _ _ _) rfl ?_
  exact ⟨rfl, (by repeat (first | exact Below.refl _ _ | apply below_drewN))⟩
set_option maxRecDepth 20000 in
set_option maxHeartbeats 1000000 in
theorem refdiv4_ftk (l h d x y D N P Q q r nq nr : Nat) (hl : l < 4294967296) (hh : h < 4294967296) (hd : d < 4294967296) (hx : x < 4294967296) (hy : y < 4294967296) (hz : D < 4294967296) (eN : (x : Int) * 4294967296 + (y : Int) = (N : Int)) (d1 : ((D : Int) == 0) = false) (d3 : ((Q : Int) == 0) = false) (d4 : ¬ ((Q : Int) = 0)) (e1 : (P : Int) / (Q : Int) = (q : Int)) (e2 : (P : Int) % (Q : Int) = (r : Int)) (hrb : r < 4294967296) (hq64 : q < 18446744073709551616) (b1 : nq < 4294967296) (b2 : nr < 4294967296)
    (V1 : ∀ w, Calls Try.prog 22 #[.int .u64 (h : Int), .int .i64 32] w fun e w' => e = .returned (.int .u64 (x : Int)) ∧ w = w')
    (V2 : ∀ w, Calls Try.prog 22 #[.int .u64 (l : Int), .int .i64 32] w fun e w' => e = .returned (.int .u64 (y : Int)) ∧ w = w')
    (V3 : ∀ w, Calls Try.prog 22 #[.int .u64 (d : Int), .int .i64 32] w fun e w' => e = .returned (.int .u64 (D : Int)) ∧ w = w')
    (G1 : ∀ w, Calls Try.prog 23 #[.int .u64 (N : Int), .int .i64 64] w fun e w' => e = .returned (.tuple #[.int .u64 (P : Int), .bool false]) ∧ w = w')
    (G2 : ∀ w, Calls Try.prog 23 #[.int .u64 (D : Int), .int .i64 32] w fun e w' => e = .returned (.tuple #[.int .u64 (Q : Int), .bool true]) ∧ w = w')
    (N1 : q ≤ 4294967296 → ∀ w, Calls Try.prog 24 #[.int .u64 (q : Int), .int .i64 32] w fun e w' => e = .returned (.int .u64 (nq : Int)) ∧ w = w')
    (N2 : ∀ w, Calls Try.prog 24 #[.int .u64 (r : Int), .int .i64 32] w fun e w' => e = .returned (.int .u64 (nr : Int)) ∧ w = w') (ho : q ≤ 2147483648) (w : World) :
    Calls Try.prog 15 #[.bool true, .int .i64 4, .int .u32 l, .int .u32 h, .int .u32 d] w fun e w' => e = .returned (.tuple #[.int .u32 (nq : Int), .int .u32 (r : Int), .bool true, .int .i64 0]) ∧ Below w.heap.size w w' := by
  have N1' := N1 (by omega)
  have HV1 := hide V1
  have HV2 := hide V2
  have HV3 := hide V3
  have HG1 := hide G1
  have HG2 := hide G2
  have HN1' := hide N1'
  have HN2 := hide N2
  clear V1 V2 V3 G1 G2 N1 N2 N1'
  go_enter Try.func15, Try.ntmps15
  go_wp2_with (go_at_call 21; go_in)
  refine (HV1.out _).mono ?_
  rintro e w' ⟨rfl, rfl⟩
  go_wp2_with fail
  refine (HV2.out _).mono ?_
  rintro e w' ⟨rfl, rfl⟩
  go_wp2_with fail
  refine (HV3.out _).mono ?_
  rintro e w' ⟨rfl, rfl⟩
  go_wp2_with fail
  refine (HG1.out _).mono ?_
  rintro e w' ⟨rfl, rfl⟩
  go_wp2_with fail
  refine (HG2.out _).mono ?_
  rintro e w' ⟨rfl, rfl⟩
  go_wp2_with fail
  refine (HN1'.out _).mono ?_
  rintro e w' ⟨rfl, rfl⟩
  go_wp2
  refine bodyPost_ret (results_tmp4 rfl _ _ _) rfl ?_
  exact ⟨rfl, (by repeat (first | exact Below.refl _ _ | apply below_drewN))⟩
set_option maxRecDepth 20000 in
set_option maxHeartbeats 1000000 in
theorem refdiv4_fto (l h d x y D N P Q q r nq nr : Nat) (hl : l < 4294967296) (hh : h < 4294967296) (hd : d < 4294967296) (hx : x < 4294967296) (hy : y < 4294967296) (hz : D < 4294967296) (eN : (x : Int) * 4294967296 + (y : Int) = (N : Int)) (d1 : ((D : Int) == 0) = false) (d3 : ((Q : Int) == 0) = false) (d4 : ¬ ((Q : Int) = 0)) (e1 : (P : Int) / (Q : Int) = (q : Int)) (e2 : (P : Int) % (Q : Int) = (r : Int)) (hrb : r < 4294967296) (hq64 : q < 18446744073709551616) (b1 : nq < 4294967296) (b2 : nr < 4294967296)
    (V1 : ∀ w, Calls Try.prog 22 #[.int .u64 (h : Int), .int .i64 32] w fun e w' => e = .returned (.int .u64 (x : Int)) ∧ w = w')
    (V2 : ∀ w, Calls Try.prog 22 #[.int .u64 (l : Int), .int .i64 32] w fun e w' => e = .returned (.int .u64 (y : Int)) ∧ w = w')
    (V3 : ∀ w, Calls Try.prog 22 #[.int .u64 (d : Int), .int .i64 32] w fun e w' => e = .returned (.int .u64 (D : Int)) ∧ w = w')
    (G1 : ∀ w, Calls Try.prog 23 #[.int .u64 (N : Int), .int .i64 64] w fun e w' => e = .returned (.tuple #[.int .u64 (P : Int), .bool false]) ∧ w = w')
    (G2 : ∀ w, Calls Try.prog 23 #[.int .u64 (D : Int), .int .i64 32] w fun e w' => e = .returned (.tuple #[.int .u64 (Q : Int), .bool true]) ∧ w = w')
    (N1 : q ≤ 4294967296 → ∀ w, Calls Try.prog 24 #[.int .u64 (q : Int), .int .i64 32] w fun e w' => e = .returned (.int .u64 (nq : Int)) ∧ w = w')
    (N2 : ∀ w, Calls Try.prog 24 #[.int .u64 (r : Int), .int .i64 32] w fun e w' => e = .returned (.int .u64 (nr : Int)) ∧ w = w') (ho : 2147483648 < q) (w : World) :
    Calls Try.prog 15 #[.bool true, .int .i64 4, .int .u32 l, .int .u32 h, .int .u32 d] w fun e w' => e = .returned (.tuple #[.int .u32 0, .int .u32 0, .bool false, .int .i64 0]) ∧ Below w.heap.size w w' := by
  have HV1 := hide V1
  have HV2 := hide V2
  have HV3 := hide V3
  have HG1 := hide G1
  have HG2 := hide G2
  have HN2 := hide N2
  clear V1 V2 V3 G1 G2 N1 N2
  go_enter Try.func15, Try.ntmps15
  go_wp2_with (go_at_call 21; go_in)
  refine (HV1.out _).mono ?_
  rintro e w' ⟨rfl, rfl⟩
  go_wp2_with fail
  refine (HV2.out _).mono ?_
  rintro e w' ⟨rfl, rfl⟩
  go_wp2_with fail
  refine (HV3.out _).mono ?_
  rintro e w' ⟨rfl, rfl⟩
  go_wp2_with fail
  refine (HG1.out _).mono ?_
  rintro e w' ⟨rfl, rfl⟩
  go_wp2_with fail
  refine (HG2.out _).mono ?_
  rintro e w' ⟨rfl, rfl⟩
  go_wp2
  refine bodyPost_ret (results_tmp4 rfl _ _ _) rfl ?_
  exact ⟨rfl, (by repeat (first | exact Below.refl _ _ | apply below_drewN))⟩
set_option maxRecDepth 20000 in
set_option maxHeartbeats 1000000 in
theorem refdiv4_tfk (l h d x y D N P Q q r nq nr : Nat) (hl : l < 4294967296) (hh : h < 4294967296) (hd : d < 4294967296) (hx : x < 4294967296) (hy : y < 4294967296) (hz : D < 4294967296) (eN : (x : Int) * 4294967296 + (y : Int) = (N : Int)) (d1 : ((D : Int) == 0) = false) (d3 : ((Q : Int) == 0) = false) (d4 : ¬ ((Q : Int) = 0)) (e1 : (P : Int) / (Q : Int) = (q : Int)) (e2 : (P : Int) % (Q : Int) = (r : Int)) (hrb : r < 4294967296) (hq64 : q < 18446744073709551616) (b1 : nq < 4294967296) (b2 : nr < 4294967296)
    (V1 : ∀ w, Calls Try.prog 22 #[.int .u64 (h : Int), .int .i64 32] w fun e w' => e = .returned (.int .u64 (x : Int)) ∧ w = w')
    (V2 : ∀ w, Calls Try.prog 22 #[.int .u64 (l : Int), .int .i64 32] w fun e w' => e = .returned (.int .u64 (y : Int)) ∧ w = w')
    (V3 : ∀ w, Calls Try.prog 22 #[.int .u64 (d : Int), .int .i64 32] w fun e w' => e = .returned (.int .u64 (D : Int)) ∧ w = w')
    (G1 : ∀ w, Calls Try.prog 23 #[.int .u64 (N : Int), .int .i64 64] w fun e w' => e = .returned (.tuple #[.int .u64 (P : Int), .bool true]) ∧ w = w')
    (G2 : ∀ w, Calls Try.prog 23 #[.int .u64 (D : Int), .int .i64 32] w fun e w' => e = .returned (.tuple #[.int .u64 (Q : Int), .bool false]) ∧ w = w')
    (N1 : q ≤ 4294967296 → ∀ w, Calls Try.prog 24 #[.int .u64 (q : Int), .int .i64 32] w fun e w' => e = .returned (.int .u64 (nq : Int)) ∧ w = w')
    (N2 : ∀ w, Calls Try.prog 24 #[.int .u64 (r : Int), .int .i64 32] w fun e w' => e = .returned (.int .u64 (nr : Int)) ∧ w = w') (ho : q ≤ 2147483648) (w : World) :
    Calls Try.prog 15 #[.bool true, .int .i64 4, .int .u32 l, .int .u32 h, .int .u32 d] w fun e w' => e = .returned (.tuple #[.int .u32 (nq : Int), .int .u32 (nr : Int), .bool true, .int .i64 0]) ∧ Below w.heap.size w w' := by
  have N1' := N1 (by omega)
  have HV1 := hide V1
  have HV2 := hide V2
  have HV3 := hide V3
  have HG1 := hide G1
  have HG2 := hide G2
  have HN1' := hide N1'
  have HN2 := hide N2
  clear V1 V2 V3 G1 G2 N1 N2 N1'
  go_enter Try.func15, Try.ntmps15
  go_wp2_with (go_at_call 21; go_in)
  refine (HV1.out _).mono ?_
  rintro e w' ⟨rfl, rfl⟩
  go_wp2_with fail
  refine (HV2.out _).mono ?_
  rintro e w' ⟨rfl, rfl⟩
  go_wp2_with fail
  refine (HV3.out _).mono ?_
  rintro e w' ⟨rfl, rfl⟩
  go_wp2_with fail
  refine (HG1.out _).mono ?_
  rintro e w' ⟨rfl, rfl⟩
  go_wp2_with fail
  refine (HG2.out _).mono ?_
  rintro e w' ⟨rfl, rfl⟩
  go_wp2_with fail
  refine (HN1'.out _).mono ?_
  rintro e w' ⟨rfl, rfl⟩
  go_wp2_with fail
  refine (HN2.out _).mono ?_
  rintro e w' ⟨rfl, rfl⟩
  go_wp2
  refine bodyPost_ret (results_tmp4 rfl _ _ _) rfl ?_
  exact ⟨rfl, (by repeat (first | exact Below.refl _ _ | apply below_drewN))⟩
set_option maxRecDepth 20000 in
set_option maxHeartbeats 1000000 in
theorem refdiv4_tfo (l h d x y D N P Q q r nq nr : Nat) (hl : l < 4294967296) (hh : h < 4294967296) (hd : d < 4294967296) (hx : x < 4294967296) (hy : y < 4294967296) (hz : D < 4294967296) (eN : (x : Int) * 4294967296 + (y : Int) = (N : Int)) (d1 : ((D : Int) == 0) = false) (d3 : ((Q : Int) == 0) = false) (d4 : ¬ ((Q : Int) = 0)) (e1 : (P : Int) / (Q : Int) = (q : Int)) (e2 : (P : Int) % (Q : Int) = (r : Int)) (hrb : r < 4294967296) (hq64 : q < 18446744073709551616) (b1 : nq < 4294967296) (b2 : nr < 4294967296)
    (V1 : ∀ w, Calls Try.prog 22 #[.int .u64 (h : Int), .int .i64 32] w fun e w' => e = .returned (.int .u64 (x : Int)) ∧ w = w')
    (V2 : ∀ w, Calls Try.prog 22 #[.int .u64 (l : Int), .int .i64 32] w fun e w' => e = .returned (.int .u64 (y : Int)) ∧ w = w')
    (V3 : ∀ w, Calls Try.prog 22 #[.int .u64 (d : Int), .int .i64 32] w fun e w' => e = .returned (.int .u64 (D : Int)) ∧ w = w')
    (G1 : ∀ w, Calls Try.prog 23 #[.int .u64 (N : Int), .int .i64 64] w fun e w' => e = .returned (.tuple #[.int .u64 (P : Int), .bool true]) ∧ w = w')
    (G2 : ∀ w, Calls Try.prog 23 #[.int .u64 (D : Int), .int .i64 32] w fun e w' => e = .returned (.tuple #[.int .u64 (Q : Int), .bool false]) ∧ w = w')
    (N1 : q ≤ 4294967296 → ∀ w, Calls Try.prog 24 #[.int .u64 (q : Int), .int .i64 32] w fun e w' => e = .returned (.int .u64 (nq : Int)) ∧ w = w')
    (N2 : ∀ w, Calls Try.prog 24 #[.int .u64 (r : Int), .int .i64 32] w fun e w' => e = .returned (.int .u64 (nr : Int)) ∧ w = w') (ho : 2147483648 < q) (w : World) :
    Calls Try.prog 15 #[.bool true, .int .i64 4, .int .u32 l, .int .u32 h, .int .u32 d] w fun e w' => e = .returned (.tuple #[.int .u32 0, .int .u32 0, .bool false, .int .i64 0]) ∧ Below w.heap.size w w' := by
  have HV1 := hide V1
  have HV2 := hide V2
  have HV3 := hide V3
  have HG1 := hide G1
  have HG2 := hide G2
  have HN2 := hide N2
  clear V1 V2 V3 G1 G2 N1 N2
  go_enter Try.func15, Try.ntmps15
  go_wp2_with (go_at_call 21; go_in)
  refine (HV1.out _).mono ?_
  rintro e w' ⟨rfl, rfl⟩
  go_wp2_with fail
  refine (HV2.out _).mono ?_
  rintro e w' ⟨rfl, rfl⟩
  go_wp2_with fail
  refine (HV3.out _).mono ?_
  rintro e w' ⟨rfl, rfl⟩
  go_wp2_with fail
  refine (HG1.out _).mono ?_
  rintro e w' ⟨rfl, rfl⟩
  go_wp2_with fail
  refine (HG2.out _).mono ?_
  rintro e w' ⟨rfl, rfl⟩
  go_wp2
  refine bodyPost_ret (results_tmp4 rfl _ _ _) rfl ?_
  exact ⟨rfl, (by repeat (first | exact Below.refl _ _ | apply below_drewN))⟩
set_option maxRecDepth 20000 in
set_option maxHeartbeats 1000000 in
theorem refdiv4_ttk (l h d x y D N P Q q r nq nr : Nat) (hl : l < 4294967296) (hh : h < 4294967296) (hd : d < 4294967296) (hx : x < 4294967296) (hy : y < 4294967296) (hz : D < 4294967296) (eN : (x : Int) * 4294967296 + (y : Int) = (N : Int)) (d1 : ((D : Int) == 0) = false) (d3 : ((Q : Int) == 0) = false) (d4 : ¬ ((Q : Int) = 0)) (e1 : (P : Int) / (Q : Int) = (q : Int)) (e2 : (P : Int) % (Q : Int) = (r : Int)) (hrb : r < 4294967296) (hq64 : q < 18446744073709551616) (b1 : nq < 4294967296) (b2 : nr < 4294967296)
    (V1 : ∀ w, Calls Try.prog 22 #[.int .u64 (h : Int), .int .i64 32] w fun e w' => e = .returned (.int .u64 (x : Int)) ∧ w = w')
    (V2 : ∀ w, Calls Try.prog 22 #[.int .u64 (l : Int), .int .i64 32] w fun e w' => e = .returned (.int .u64 (y : Int)) ∧ w = w')
    (V3 : ∀ w, Calls Try.prog 22 #[.int .u64 (d : Int), .int .i64 32] w fun e w' => e = .returned (.int .u64 (D : Int)) ∧ w = w')
    (G1 : ∀ w, Calls Try.prog 23 #[.int .u64 (N : Int), .int .i64 64] w fun e w' => e = .returned (.tuple #[.int .u64 (P : Int), .bool true]) ∧ w = w')
    (G2 : ∀ w, Calls Try.prog 23 #[.int .u64 (D : Int), .int .i64 32] w fun e w' => e = .returned (.tuple #[.int .u64 (Q : Int), .bool true]) ∧ w = w')
    (N1 : q ≤ 4294967296 → ∀ w, Calls Try.prog 24 #[.int .u64 (q : Int), .int .i64 32] w fun e w' => e = .returned (.int .u64 (nq : Int)) ∧ w = w')
    (N2 : ∀ w, Calls Try.prog 24 #[.int .u64 (r : Int), .int .i64 32] w fun e w' => e = .returned (.int .u64 (nr : Int)) ∧ w = w') (ho : q ≤ 2147483647) (w : World) :
    Calls Try.prog 15 #[.bool true, .int .i64 4, .int .u32 l, .int .u32 h, .int .u32 d] w fun e w' => e = .returned (.tuple #[.int .u32 (q : Int), .int .u32 (nr : Int), .bool true, .int .i64 0]) ∧ Below w.heap.size w w' := by
  have HV1 := hide V1
  have HV2 := hide V2
  have HV3 := hide V3
  have HG1 := hide G1
  have HG2 := hide G2
  have HN2 := hide N2
  clear V1 V2 V3 G1 G2 N1 N2
  go_enter Try.func15, Try.ntmps15
  go_wp2_with (go_at_call 21; go_in)
  refine (HV1.out _).mono ?_
  rintro e w' ⟨rfl, rfl⟩
  go_wp2_with fail
  refine (HV2.out _).mono ?_
  rintro e w' ⟨rfl, rfl⟩
  go_wp2_with fail
  refine (HV3.out _).mono ?_
  rintro e w' ⟨rfl, rfl⟩
  go_wp2_with fail
  refine (HG1.out _).mono ?_
  rintro e w' ⟨rfl, rfl⟩
  go_wp2_with fail
  refine (HG2.out _).mono ?_
  rintro e w' ⟨rfl, rfl⟩
  go_wp2_with fail
  refine (HN2.out _).mono ?_
  rintro e w' ⟨rfl, rfl⟩
  go_wp2
  refine bodyPost_ret (results_tmp4 rfl _ _ _) rfl ?_
  exact ⟨rfl, (by repeat (first | exact Below.refl _ _ | apply below_drewN))⟩
set_option maxRecDepth 20000 in
set_option maxHeartbeats 1000000 in
theorem refdiv4_tto (l h d x y D N P Q q r nq nr : Nat) (hl : l < 4294967296) (hh : h < 4294967296) (hd : d < 4294967296) (hx : x < 4294967296) (hy : y < 4294967296) (hz : D < 4294967296) (eN : (x : Int) * 4294967296 + (y : Int) = (N : Int)) (d1 : ((D : Int) == 0) = false) (d3 : ((Q : Int) == 0) = false) (d4 : ¬ ((Q : Int) = 0)) (e1 : (P : Int) / (Q : Int) = (q : Int)) (e2 : (P : Int) % (Q : Int) = (r : Int)) (hrb : r < 4294967296) (hq64 : q < 18446744073709551616) (b1 : nq < 4294967296) (b2 : nr < 4294967296)
    (V1 : ∀ w, Calls Try.prog 22 #[.int .u64 (h : Int), .int .i64 32] w fun e w' => e = .returned (.int .u64 (x : Int)) ∧ w = w')
    (V2 : ∀ w, Calls Try.prog 22 #[.int .u64 (l : Int), .int .i64 32] w fun e w' => e = .returned (.int .u64 (y : Int)) ∧ w = w')
    (V3 : ∀ w, Calls Try.prog 22 #[.int .u64 (d : Int), .int .i64 32] w fun e w' => e = .returned (.int .u64 (D : Int)) ∧ w = w')
    (G1 : ∀ w, Calls Try.prog 23 #[.int .u64 (N : Int), .int .i64 64] w fun e w' => e = .returned (.tuple #[.int .u64 (P : Int), .bool true]) ∧ w = w')
    (G2 : ∀ w, Calls Try.prog 23 #[.int .u64 (D : Int), .int .i64 32] w fun e w' => e = .returned (.tuple #[.int .u64 (Q : Int), .bool true]) ∧ w = w')
    (N1 : q ≤ 4294967296 → ∀ w, Calls Try.prog 24 #[.int .u64 (q : Int), .int .i64 32] w fun e w' => e = .returned (.int .u64 (nq : Int)) ∧ w = w')
    (N2 : ∀ w, Calls Try.prog 24 #[.int .u64 (r : Int), .int .i64 32] w fun e w' => e = .returned (.int .u64 (nr : Int)) ∧ w = w') (ho : 2147483647 < q) (w : World) :
    Calls Try.prog 15 #[.bool true, .int .i64 4, .int .u32 l, .int .u32 h, .int .u32 d] w fun e w' => e = .returned (.tuple #[.int .u32 0, .int .u32 0, .bool false, .int .i64 0]) ∧ Below w.heap.size w w' := by
  have HV1 := hide V1
  have HV2 := hide V2
  have HV3 := hide V3
  have HG1 := hide G1
  have HG2 := hide G2
  have HN2 := hide N2
  clear V1 V2 V3 G1 G2 N1 N2
  go_enter Try.func15, Try.ntmps15
  go_wp2_with (go_at_call 21; go_in)
  refine (HV1.out _).mono ?_
  rintro e w' ⟨rfl, rfl⟩
  go_wp2_with fail
  refine (HV2.out _).mono ?_
  rintro e w' ⟨rfl, rfl⟩
  go_wp2_with fail
  refine (HV3.out _).mono ?_
  rintro e w' ⟨rfl, rfl⟩
  go_wp2_with fail
  refine (HG1.out _).mono ?_
  rintro e w' ⟨rfl, rfl⟩
  go_wp2_with fail
  refine (HG2.out _).mono ?_
  rintro e w' ⟨rfl, rfl⟩
  go_wp2
  refine bodyPost_ret (results_tmp4 rfl _ _ _) rfl ?_
  exact ⟨rfl, (by repeat (first | exact Below.refl _ _ | apply below_drewN))⟩

set_option maxRecDepth 20000 in
set_option maxHeartbeats 1000000 in
theorem refdiv4_false (l h d : Nat) (hl : l < 4294967296) (hh : h < 4294967296) (hd : d < 4294967296) (w : World) :
    Calls Try.prog 15 #[.bool false, .int .i64 4, .int .u32 l, .int .u32 h, .int .u32 d] w fun e w' => DivE false 32 (h % 4294967296 * 4294967296 + l % 4294967296) (d % 4294967296) e ∧ Below w.heap.size w w' := by
  have V1 : ∀ w, Calls Try.prog 22 #[.int .u64 (h : Int), .int .i64 32] w fun e w' => e = .returned (.int .u64 ((h % 4294967296 : Nat) : Int)) ∧ w = w' := fun w => cut_ok h 32 (by omega) (by decide) w
  have V2 : ∀ w, Calls Try.prog 22 #[.int .u64 (l : Int), .int .i64 32] w fun e w' => e = .returned (.int .u64 ((l % 4294967296 : Nat) : Int)) ∧ w = w' := fun w => cut_ok l 32 (by omega) (by decide) w
  have V3 : ∀ w, Calls Try.prog 22 #[.int .u64 (d : Int), .int .i64 32] w fun e w' => e = .returned (.int .u64 ((d % 4294967296 : Nat) : Int)) ∧ w = w' := fun w => cut_ok d 32 (by omega) (by decide) w
  have hx : h % 4294967296 < 4294967296 := Nat.mod_lt _ (by decide)
  have hy : l % 4294967296 < 4294967296 := Nat.mod_lt _ (by decide)
  have hz : d % 4294967296 < 4294967296 := Nat.mod_lt _ (by decide)
  generalize h % 4294967296 = x at *
  generalize l % 4294967296 = y at *
  generalize d % 4294967296 = D at *
  have eN : (x : Int) * 4294967296 + (y : Int) = ((x * 4294967296 + y : Nat) : Int) := by omega
  have hN : x * 4294967296 + y < 18446744073709551616 := by omega
  generalize x * 4294967296 + y = N at *
  have H1 := hide V1
  have H2 := hide V2
  have H3 := hide V3
  clear V1 V2 V3
  rcases Nat.eq_zero_or_pos D with hD | hD
  · subst hD
    go_enter Try.func15, Try.ntmps15
    go_wp2_with (go_at_call 21; go_in)
    refine (H1.out _).mono ?_
    rintro e w' ⟨rfl, rfl⟩
    go_wp2_with fail
    refine (H2.out _).mono ?_
    rintro e w' ⟨rfl, rfl⟩
    go_wp2_with fail
    refine (H3.out _).mono ?_
    rintro e w' ⟨rfl, rfl⟩
    go_wp2
    refine bodyPost_ret (results_tmp4 rfl _ _ _) rfl ?_
    exact ⟨Or.inr ⟨by simp [divOk], rfl⟩, (by repeat (first | exact Below.refl _ _ | apply below_drewN))⟩
  have d1 : ((D : Int) == 0) = false := by simp; omega
  have d2 : ¬ ((D : Int) = 0) := by omega
  have hm : N % D < 4294967296 := Nat.lt_trans (Nat.mod_lt _ hD) hz
  have hqN : N / D < 18446744073709551616 := Nat.lt_of_le_of_lt (Nat.div_le_self _ _) hN
  have e1 : (N : Int) / (D : Int) = ((N / D : Nat) : Int) := by simp
  have e2 : (N : Int) % (D : Int) = ((N % D : Nat) : Int) := by simp
  have eo : divOk false 32 N D = decide (N / D < 4294967296) := divOk_un 32 N D 4294967296 (by decide) (by omega)
  have eq := divQ_un 32 N D
  have er := divR_un 32 N D
  rw [divE_of eo eq er]
  clear eo eq er
  generalize N / D = q at *
  generalize N % D = r at *
  rcases Nat.lt_or_ge q 4294967296 with ho | ho
  · rw [decide_eq_true ho]
    go_enter Try.func15, Try.ntmps15
    go_wp2_with (go_at_call 21; go_in)
    refine (H1.out _).mono ?_
    rintro e w' ⟨rfl, rfl⟩
    go_wp2_with fail
    refine (H2.out _).mono ?_
    rintro e w' ⟨rfl, rfl⟩
    go_wp2_with fail
    refine (H3.out _).mono ?_
    rintro e w' ⟨rfl, rfl⟩
    go_wp2_with fail
    try go_quiet (fail)
    try go_wp2
    refine bodyPost_ret (results_tmp4 rfl _ _ _) rfl ?_
    exact ⟨Or.inl ⟨by simp, rfl⟩, (by repeat (first | exact Below.refl _ _ | apply below_drewN))⟩
  · rw [decide_eq_false (by omega)]
    go_enter Try.func15, Try.ntmps15
    go_wp2_with (go_at_call 21; go_in)
    refine (H1.out _).mono ?_
    rintro e w' ⟨rfl, rfl⟩
    go_wp2_with fail
    refine (H2.out _).mono ?_
    rintro e w' ⟨rfl, rfl⟩
    go_wp2_with fail
    refine (H3.out _).mono ?_
    rintro e w' ⟨rfl, rfl⟩
    go_wp2
    refine bodyPost_ret (results_tmp4 rfl _ _ _) rfl ?_
    exact ⟨Or.inr ⟨by simp, rfl⟩, (by repeat (first | exact Below.refl _ _ | apply below_drewN))⟩

set_option maxRecDepth 20000 in
set_option maxHeartbeats 1000000 in
theorem refdiv4_true (l h d : Nat) (hl : l < 4294967296) (hh : h < 4294967296) (hd : d < 4294967296) (w : World) :
    Calls Try.prog 15 #[.bool true, .int .i64 4, .int .u32 l, .int .u32 h, .int .u32 d] w fun e w' => DivE true 32 (h % 4294967296 * 4294967296 + l % 4294967296) (d % 4294967296) e ∧ Below w.heap.size w w' := by
  have V1 : ∀ w, Calls Try.prog 22 #[.int .u64 (h : Int), .int .i64 32] w fun e w' => e = .returned (.int .u64 ((h % 4294967296 : Nat) : Int)) ∧ w = w' := fun w => cut_ok h 32 (by omega) (by decide) w
  have V2 : ∀ w, Calls Try.prog 22 #[.int .u64 (l : Int), .int .i64 32] w fun e w' => e = .returned (.int .u64 ((l % 4294967296 : Nat) : Int)) ∧ w = w' := fun w => cut_ok l 32 (by omega) (by decide) w
  have V3 : ∀ w, Calls Try.prog 22 #[.int .u64 (d : Int), .int .i64 32] w fun e w' => e = .returned (.int .u64 ((d % 4294967296 : Nat) : Int)) ∧ w = w' := fun w => cut_ok d 32 (by omega) (by decide) w
  have hx : h % 4294967296 < 4294967296 := Nat.mod_lt _ (by decide)
  have hy : l % 4294967296 < 4294967296 := Nat.mod_lt _ (by decide)
  have hz : d % 4294967296 < 4294967296 := Nat.mod_lt _ (by decide)
  generalize h % 4294967296 = x at *
  generalize l % 4294967296 = y at *
  generalize d % 4294967296 = D at *
  have eN : (x : Int) * 4294967296 + (y : Int) = ((x * 4294967296 + y : Nat) : Int) := by omega
  have hN : x * 4294967296 + y < 18446744073709551616 := by omega
  generalize x * 4294967296 + y = N at *
  have H1 := hide V1
  have H2 := hide V2
  have H3 := hide V3
  clear V1 V2 V3
  rcases Nat.eq_zero_or_pos D with hD | hD
  · subst hD
    go_enter Try.func15, Try.ntmps15
    go_wp2_with (go_at_call 21; go_in)
    refine (H1.out _).mono ?_
    rintro e w' ⟨rfl, rfl⟩
    go_wp2_with fail
    refine (H2.out _).mono ?_
    rintro e w' ⟨rfl, rfl⟩
    go_wp2_with fail
    refine (H3.out _).mono ?_
    rintro e w' ⟨rfl, rfl⟩
    go_wp2
    refine bodyPost_ret (results_tmp4 rfl _ _ _) rfl ?_
    exact ⟨Or.inr ⟨by simp [divOk], rfl⟩, (by repeat (first | exact Below.refl _ _ | apply below_drewN))⟩
  have d1 : ((D : Int) == 0) = false := by simp; omega
  have nP : magN N 64 ≤ 2 ^ (64 - 1) := magN_le N 64 (by unfold wB2; decide) hN
  have nQ : magN D 32 ≤ 2 ^ (32 - 1) := magN_le D 32 (by unfold wB2; decide) hz
  have pQ : 0 < magN D 32 := mag_pos D 32 hz (by omega)
  have G1 : ∀ w, Calls Try.prog 23 #[.int .u64 (N : Int), .int .i64 64] w fun e w' => e = .returned (.tuple #[.int .u64 ((magN N 64 : Nat) : Int), .bool (sgn N 64)]) ∧ w = w' := fun w => mag_ok N 64 (by decide) hN w
  have G2 : ∀ w, Calls Try.prog 23 #[.int .u64 (D : Int), .int .i64 32] w fun e w' => e = .returned (.tuple #[.int .u64 ((magN D 32 : Nat) : Int), .bool (sgn D 32)]) ∧ w = w' := fun w => mag_ok D 32 (by decide) hz w
  have eo := divOk_sg 32 64 N D (by decide) (by omega)
  have eq := divQ_sg 32 64 N D (by decide)
  have er := divR_sg 32 64 N D (by decide)
  obtain ⟨L, hL⟩ : ∃ L : Nat, L = 2 ^ (32 - 1) := ⟨_, rfl⟩
  rw [pow_is 32 L hL] at eo
  have hq : magN N 64 / magN D 32 ≤ 2 ^ (64 - 1) := Nat.le_trans (Nat.div_le_self _ _) nP
  have hr : magN N 64 % magN D 32 ≤ 2 ^ (32 - 1) := Nat.le_trans (Nat.le_of_lt (Nat.mod_lt _ pQ)) nQ
  have e1 : ((magN N 64 : Nat) : Int) / ((magN D 32 : Nat) : Int) = ((magN N 64 / magN D 32 : Nat) : Int) := by simp
  have e2 : ((magN N 64 : Nat) : Int) % ((magN D 32 : Nat) : Int) = ((magN N 64 % magN D 32 : Nat) : Int) := by simp
  generalize magN N 64 / magN D 32 = q at *
  generalize magN N 64 % magN D 32 = r at *
  generalize magN N 64 = P at *
  generalize magN D 32 = Q at *
  generalize sgn N 64 = s at *
  generalize sgn D 32 = t at *
  simp only [Nat.reduceSub, Nat.reducePow] at hq hr nP nQ hL
  have d3 : ((Q : Int) == 0) = false := by simp; omega
  have d4 : ¬ ((Q : Int) = 0) := by omega
  have N1 : q ≤ 4294967296 → ∀ w, Calls Try.prog 24 #[.int .u64 (q : Int), .int .i64 32] w fun e w' => e = .returned (.int .u64 ((negN q 32 : Nat) : Int)) ∧ w = w' := fun h w => neg_ok q 32 (by decide) (by simp only [Int.reduceToNat, Nat.reducePow]; exact h) (by omega) w
  have N2 : ∀ w, Calls Try.prog 24 #[.int .u64 (r : Int), .int .i64 32] w fun e w' => e = .returned (.int .u64 ((negN r 32 : Nat) : Int)) ∧ w = w' := fun w => neg_ok r 32 (by decide) (by simp only [Int.reduceToNat, Nat.reducePow]; omega) (by omega) w
  have b1 := negN_lt4 q 32 4294967296 (by decide) (by decide)
  have b2 := negN_lt4 r 32 4294967296 (by decide) (by decide)
  generalize negN q 32 = nq at *
  generalize negN r 32 = nr at *
  have hrb : r < 4294967296 := by omega
  have hq64 : q < 18446744073709551616 := by omega
  clear nP nQ pQ hq hr hN
  have V1 := H1.out
  have V2 := H2.out
  have V3 := H3.out
  clear H1 H2 H3
  cases s <;> cases t
  · rcases Nat.lt_or_ge (L - 1) q with ho | ho
    · exact (refdiv4_ffo l h d x y D N P Q q r nq nr hl hh hd hx hy hz eN d1 d3 d4 e1 e2 hrb hq64 b1 b2 V1 V2 V3 G1 G2 N1 N2 (by omega) w).mono fun e w' h => ⟨divE_over eo (.inl ⟨rfl, ho⟩) h.1, h.2⟩
    · exact (refdiv4_ffk l h d x y D N P Q q r nq nr hl hh hd hx hy hz eN d1 d3 d4 e1 e2 hrb hq64 b1 b2 V1 V2 V3 G1 G2 N1 N2 (by omega) w).mono fun e w' h => ⟨divE_in eo eq er (.inl ⟨rfl, ho, rfl⟩) (.inr ⟨rfl, rfl⟩) h.1, h.2⟩
  · rcases Nat.lt_or_ge (L) q with ho | ho
    · exact (refdiv4_fto l h d x y D N P Q q r nq nr hl hh hd hx hy hz eN d1 d3 d4 e1 e2 hrb hq64 b1 b2 V1 V2 V3 G1 G2 N1 N2 (by omega) w).mono fun e w' h => ⟨divE_over eo (.inr ⟨rfl, ho⟩) h.1, h.2⟩
    · exact (refdiv4_ftk l h d x y D N P Q q r nq nr hl hh hd hx hy hz eN d1 d3 d4 e1 e2 hrb hq64 b1 b2 V1 V2 V3 G1 G2 N1 N2 (by omega) w).mono fun e w' h => ⟨divE_in eo eq er (.inr ⟨rfl, ho, rfl⟩) (.inr ⟨rfl, rfl⟩) h.1, h.2⟩
  · rcases Nat.lt_or_ge (L) q with ho | ho
    · exact (refdiv4_tfo l h d x y D N P Q q r nq nr hl hh hd hx hy hz eN d1 d3 d4 e1 e2 hrb hq64 b1 b2 V1 V2 V3 G1 G2 N1 N2 (by omega) w).mono fun e w' h => ⟨divE_over eo (.inr ⟨rfl, ho⟩) h.1, h.2⟩
    · exact (refdiv4_tfk l h d x y D N P Q q r nq nr hl hh hd hx hy hz eN d1 d3 d4 e1 e2 hrb hq64 b1 b2 V1 V2 V3 G1 G2 N1 N2 (by omega) w).mono fun e w' h => ⟨divE_in eo eq er (.inr ⟨rfl, ho, rfl⟩) (.inl ⟨rfl, rfl⟩) h.1, h.2⟩
  · rcases Nat.lt_or_ge (L - 1) q with ho | ho
    · exact (refdiv4_tto l h d x y D N P Q q r nq nr hl hh hd hx hy hz eN d1 d3 d4 e1 e2 hrb hq64 b1 b2 V1 V2 V3 G1 G2 N1 N2 (by omega) w).mono fun e w' h => ⟨divE_over eo (.inl ⟨rfl, ho⟩) h.1, h.2⟩
    · exact (refdiv4_ttk l h d x y D N P Q q r nq nr hl hh hd hx hy hz eN d1 d3 d4 e1 e2 hrb hq64 b1 b2 V1 V2 V3 G1 G2 N1 N2 (by omega) w).mono fun e w' h => ⟨divE_in eo eq er (.inl ⟨rfl, ho, rfl⟩) (.inl ⟨rfl, rfl⟩) h.1, h.2⟩

end Go.Proofs.Ytfjjipkieecpcaa
