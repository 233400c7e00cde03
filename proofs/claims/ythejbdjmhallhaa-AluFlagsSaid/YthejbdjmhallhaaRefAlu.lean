/- Sums, differences and logic as the document does them. -/
import Derived.Test.YthejbdjmhallhaaRef1
import Derived.Test.YthejbdjmhallhaaAluPlain
namespace Go.Proofs.Ythejbdjmhallhaa
open Go.RowKit Pl

theorem int_ne (m : Int) (n k : Nat) (h : m = (n : Int)) : (m != (k : Int)) = (n != k) := by
  subst h
  rw [Bool.eq_iff_iff]
  simp only [bne_iff_ne]
  omega

set_option maxRecDepth 20000 in
set_option maxHeartbeats 4000000 in
theorem refadd_ok (x y c fl : Nat) (b : Int) (hb : b = 8 ∨ b = 16 ∨ b = 32) (hx : x < 4294967296) (hy : y < 4294967296) (hc : c ≤ 1) (hf : fl < 4294967296) (w : World) :
    Calls Try.prog 25 #[.int .u64 x, .int .u64 y, .int .u64 c, .int .i64 b, .int .u32 fl] w fun e w' => e = .returned (.tuple #[.int .u64 ((addR b.toNat x y c : Nat) : Int), .int .u32 ((addF b.toNat x y c fl : Nat) : Int)]) ∧ w = w' := by
  have H1 : ∀ w, Calls Try.prog 24 #[.int .u64 ((x : Int) + y + c), .int .i64 b] w fun e w' => e = .returned (.int .u64 ((addR b.toNat x y c : Nat) : Int)) ∧ w = w' := by
    intro w
    have h := cut_ok ((x : Int) + y + c) b (by omega) hb w
    rw [show ((x : Int) + y + c).toNat = x + y + c by omega] at h
    exact h
  unfold addF
  generalize addR b.toNat x y c = r at *
  have q1 := int_ne ((x : Int) + y + c) (x + y + c) r (by omega)
  have q2 : decide (15 < (x : Int) % 16 + (y : Int) % 16 + (c : Int)) = decide (15 < x % 16 + y % 16 + c) := by
    rw [Bool.eq_iff_iff]
    simp only [decide_eq_true_eq]
    omega
  generalize (x + y + c != r) = cf at *
  generalize decide (15 < x % 16 + y % 16 + c) = af at *
  have H2 := hide fun w => set_ok fl 1 cf (by decide) hf w
  have H3 := hide fun w => set_ok (setF fl 1 cf) 16 af (by decide) (lt1 _ hf) w
  have H4 := hide fun w => sign_ok x b (by omega) w
  have H5 := hide fun w => sign_ok y b (by omega) w
  have H6 := hide fun w => sign_ok r b (by omega) w
  have H7 := hide fun o w => set_ok (setF (setF fl 1 cf) 16 af) 2048 o (by decide) (lt16 _ (lt1 _ hf)) w
  have H8 := hide fun o w => by_ok r (setF (setF (setF fl 1 cf) 16 af) 2048 o) b hb (lt2048 _ (lt16 _ (lt1 _ hf))) w
  simp only [Int.reduceToNat] at H2 H3 H7
  generalize setF (setF fl 1 cf) 16 af = v2 at *
  generalize setF fl 1 cf = v1 at *
  generalize sgn x b.toNat = s at *
  generalize sgn y b.toNat = t at *
  generalize sgn r b.toNat = u at *
  have H1' := hide H1
  clear H1 hf hb
  cases s <;> cases t <;> cases u
  all_goals
    go_enter Try.func25, Try.ntmps25
    go_wp2_with fail
    refine (H1'.out _).mono ?_
    rintro e w' ⟨rfl, rfl⟩
    go_wp2_with fail
    refine (H2.out _).mono ?_
    rintro e w' ⟨rfl, rfl⟩
    go_wp2_with fail
    refine (H3.out _).mono ?_
    rintro e w' ⟨rfl, rfl⟩
    go_wp2_with fail
    refine (H4.out _).mono ?_
    rintro e w' ⟨rfl, rfl⟩
    go_wp2_with fail
    refine (H5.out _).mono ?_
    rintro e w' ⟨rfl, rfl⟩
    go_wp2_with fail
    first
      | (refine (H7.out _ _).mono ?_
         rintro e w' ⟨rfl, rfl⟩)
      | (refine (H6.out _).mono ?_
         rintro e w' ⟨rfl, rfl⟩
         go_wp2_with fail
         refine (H7.out _ _).mono ?_
         rintro e w' ⟨rfl, rfl⟩)
    go_wp2_with fail
    refine (H8.out _ _).mono ?_
    rintro e w' ⟨rfl, rfl⟩
    go_wp2
    go_ret2
    exact ⟨ret_ii rfl rfl, rfl⟩

set_option maxRecDepth 20000 in
set_option maxHeartbeats 4000000 in
theorem refsub_ok (x y c fl : Nat) (b : Int) (hb : b = 8 ∨ b = 16 ∨ b = 32) (hx : x < 2 ^ b.toNat) (hy : y < 2 ^ b.toNat) (hc : c ≤ 1) (hf : fl < 4294967296) (w : World) :
    Calls Try.prog 26 #[.int .u64 x, .int .u64 y, .int .u64 c, .int .i64 b, .int .u32 fl] w fun e w' => e = .returned (.tuple #[.int .u64 ((subR b.toNat x y c : Nat) : Int), .int .u32 ((subF b.toNat x y c fl : Nat) : Int)]) ∧ w = w' := by
  have H1 : ∀ w, Calls Try.prog 24 #[.int .u64 ((x : Int) + ((2 ^ (b.toNat + 1) : Nat) : Int) - y - c), .int .i64 b] w fun e w' => e = .returned (.int .u64 ((subR b.toNat x y c : Nat) : Int)) ∧ w = w' := by
    intro w
    have hp : 2 ^ (b.toNat + 1) = 2 * 2 ^ b.toNat := by rw [Nat.pow_succ, Nat.mul_comm]
    have h := cut_ok ((x : Int) + ((2 ^ (b.toNat + 1) : Nat) : Int) - y - c) b (by omega) hb w
    rw [show ((x : Int) + ((2 ^ (b.toNat + 1) : Nat) : Int) - y - c).toNat = x + 2 ^ (b.toNat + 1) - y - c by omega] at h
    exact h
  have H2 := hide fun w => set_ok fl 1 (decide (x < y + c)) (by decide) hf w
  have H3 := hide fun w => set_ok (setF fl 1 (decide (x < y + c))) 16 (decide (x % 16 < y % 16 + c)) (by decide) (lt1 _ hf) w
  have H4 := hide fun w => sign_ok x b (by omega) w
  have H5 := hide fun w => sign_ok y b (by omega) w
  have H7 := hide fun o w => set_ok (setF (setF fl 1 (decide (x < y + c))) 16 (decide (x % 16 < y % 16 + c))) 2048 o (by decide) (lt16 _ (lt1 _ hf)) w
  unfold subF
  generalize subR b.toNat x y c = r at *
  have H6 := hide fun w => sign_ok r b (by omega) w
  have H8 := hide fun o w => by_ok r (setF (setF (setF fl 1 (decide (x < y + c))) 16 (decide (x % 16 < y % 16 + c))) 2048 o) b hb (lt2048 _ (lt16 _ (lt1 _ hf))) w
  have q1 : decide ((x : Int) < (y : Int) + (c : Int)) = decide (x < y + c) := by
    rw [Bool.eq_iff_iff]
    simp only [decide_eq_true_eq]
    omega
  have q2 : decide ((x : Int) % 16 < (y : Int) % 16 + (c : Int)) = decide (x % 16 < y % 16 + c) := by
    rw [Bool.eq_iff_iff]
    simp only [decide_eq_true_eq]
    omega
  generalize decide (x < y + c) = cf at *
  generalize decide (x % 16 < y % 16 + c) = af at *
  simp only [Int.reduceToNat] at H2 H3 H7
  generalize setF (setF fl 1 cf) 16 af = v2 at *
  generalize setF fl 1 cf = v1 at *
  generalize sgn x b.toNat = s at *
  generalize sgn y b.toNat = t at *
  generalize sgn r b.toNat = u at *
  have H1' := hide H1
  clear H1 hf
  rcases hb with rfl | rfl | rfl
  all_goals
    simp only [Int.reduceToNat, Nat.reduceAdd, Nat.reducePow] at H1' hx hy
    cases s <;> cases t <;> cases u
    all_goals
      go_enter Try.func26, Try.ntmps26
      go_wp2_with fail
      refine (H1'.out _).mono ?_
      rintro e w' ⟨rfl, rfl⟩
      go_wp2_with fail
      refine (H2.out _).mono ?_
      rintro e w' ⟨rfl, rfl⟩
      go_wp2_with fail
      refine (H3.out _).mono ?_
      rintro e w' ⟨rfl, rfl⟩
      go_wp2_with fail
      refine (H4.out _).mono ?_
      rintro e w' ⟨rfl, rfl⟩
      go_wp2_with fail
      refine (H5.out _).mono ?_
      rintro e w' ⟨rfl, rfl⟩
      go_wp2_with fail
      first
        | (refine (H7.out _ _).mono ?_
           rintro e w' ⟨rfl, rfl⟩)
        | (refine (H6.out _).mono ?_
           rintro e w' ⟨rfl, rfl⟩
           go_wp2_with fail
           refine (H7.out _ _).mono ?_
           rintro e w' ⟨rfl, rfl⟩)
      go_wp2_with fail
      refine (H8.out _ _).mono ?_
      rintro e w' ⟨rfl, rfl⟩
      go_wp2
      go_ret2
      exact ⟨ret_ii rfl rfl, rfl⟩

set_option maxHeartbeats 1000000 in
theorem reflogic_ok (r fl : Nat) (b : Int) (hb : b = 8 ∨ b = 16 ∨ b = 32) (hf : fl < 4294967296) (w : World) :
    Calls Try.prog 27 #[.int .u64 r, .int .i64 b, .int .u32 fl] w fun e w' => e = .returned (.tuple #[.int .u64 (r : Int), .int .u32 ((logF b.toNat r fl : Nat) : Int)]) ∧ w = w' := by
  have H1 := hide fun w => set_ok fl 1 false (by decide) hf w
  have H2 := hide fun w => set_ok (setF fl 1 false) 2048 false (by decide) (lt1 _ hf) w
  have H3 := hide fun w => set_ok (setF (setF fl 1 false) 2048 false) 16 false (by decide) (lt2048 _ (lt1 _ hf)) w
  have H4 := hide fun w => by_ok r (setF (setF (setF fl 1 false) 2048 false) 16 false) b hb (lt16 _ (lt2048 _ (lt1 _ hf))) w
  unfold logF
  simp only [Int.reduceToNat] at H1 H2 H3
  generalize setF (setF (setF fl 1 false) 2048 false) 16 false = v3 at *
  generalize setF (setF fl 1 false) 2048 false = v2 at *
  generalize setF fl 1 false = v1 at *
  generalize byF r b.toNat v3 = v4 at *
  clear hf hb
  go_enter Try.func27, Try.ntmps27
  go_wp2_with fail
  refine (H1.out _).mono ?_
  rintro e w' ⟨rfl, rfl⟩
  go_wp2_with fail
  refine (H2.out _).mono ?_
  rintro e w' ⟨rfl, rfl⟩
  go_wp2_with fail
  refine (H3.out _).mono ?_
  rintro e w' ⟨rfl, rfl⟩
  go_wp2_with fail
  refine (H4.out _).mono ?_
  rintro e w' ⟨rfl, rfl⟩
  go_wp2
  go_ret2
  exact ⟨ret_ii rfl rfl, rfl⟩

set_option maxHeartbeats 1000000 in
theorem refkeep_ok (rf fl : Nat) (hf : rf < 4294967296) (w : World) :
    Calls Try.prog 28 #[.int .u32 rf, .int .u32 fl] w fun e w' => e = .returned (.int .u32 ((keepF rf fl : Nat) : Int)) ∧ w = w' := by
  have q : ((fl : Int) % 2 == 1) = hasF fl 1 := by
    unfold hasF
    rw [Nat.div_one, Bool.eq_iff_iff]
    simp only [beq_iff_eq]
    omega
  have H1 := hide fun w => set_ok rf 1 (hasF fl 1) (by decide) hf w
  unfold keepF
  simp only [Int.reduceToNat] at H1
  generalize setF rf 1 (hasF fl 1) = v1 at *
  generalize hasF fl 1 = h at *
  clear hf
  go_enter Try.func28, Try.ntmps28
  go_wp2_with (first | (go_at_call 31; refine (H1.out _).mono ?_; rintro e w' ⟨rfl, rfl⟩) | go_in)
  go_ret
  exact ⟨rfl, rfl⟩
end Go.Proofs.Ythejbdjmhallhaa
