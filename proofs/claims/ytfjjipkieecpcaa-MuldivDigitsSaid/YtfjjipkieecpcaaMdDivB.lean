/- The program's Div: how it ends, and where there is no such size. -/
import Derived.Test.YtfjjipkieecpcaaMdMulB
import Derived.Test.YtfjjipkieecpcaaMdDivPlain
import Derived.Deep.QuietTactic
import Derived.BigQuiet
namespace Go.Proofs.Ytfjjipkieecpcaa
open Go.RowKit Pl
set_option linter.unusedVariables false

theorem quiet_left {P : Program} {f : FuncId} {args : Array Value} {w : World} {n : Nat} {v : Value}
    (h : Calls P f args (w.drewN n) fun e w' => e = .returned v ∧ w.drewN n = w') : Calls P f args (w.drewN n) fun e w'' => e = .returned v ∧ ∃ m, w'' = w.drewN m :=
  h.mono fun _ _ ⟨he, hm⟩ => ⟨he, n, hm.symm⟩
theorem quiet_add_left {P : Program} {f : FuncId} {args : Array Value} {w : World} {a n : Nat} {v : Value}
    (h : Calls P f args (w.drewN (a + n)) fun e w' => e = .returned v ∧ w.drewN (a + n) = w') :
    Calls P f args (w.drewN (a + n)) fun e w'' => e = .returned v ∧ ∃ m, w'' = w.drewN (a + m) :=
  h.mono fun _ _ ⟨he, hm⟩ => ⟨he, n, hm.symm⟩
/-- how a division ends -/
def DivE (sg : Bool) (b n d : Nat) (e : Ending) : Prop :=
  (divOk sg b n d = true ∧ e = .returned (.tuple #[.int .u32 ((divQ sg b n d : Nat) : Int), .int .u32 ((divR sg b n d : Nat) : Int), .bool true, .int .i64 0])) ∨
  (divOk sg b n d = false ∧ e = .returned (.tuple #[.int .u32 0, .int .u32 0, .bool false, .int .i64 0]))
theorem divE_of {sg : Bool} {b n d : Nat} {o : Bool} {q r : Nat} (eo : divOk sg b n d = o) (eq : divQ sg b n d = q) (er : divR sg b n d = r) :
    DivE sg b n d = fun e => (o = true ∧ e = .returned (.tuple #[.int .u32 (q : Int), .int .u32 (r : Int), .bool true, .int .i64 0])) ∨ (o = false ∧ e = .returned (.tuple #[.int .u32 0, .int .u32 0, .bool false, .int .i64 0])) := by
  subst eo eq er
  rfl
theorem or_two (x y b : Nat) (hb : b ≤ 32) (hx : x < 2 ^ b) (hy : y < 2 ^ b) : bits .or .u64 ((x : Int) * ((2 ^ b : Nat) : Int)) (y : Int) = ((x * 2 ^ b + y : Nat) : Int) := by
  have h1 : 2 ^ b ≤ 2 ^ 32 := Nat.pow_le_pow_right (by decide) hb
  have h2 : x * 2 ^ b < 2 ^ 64 := by
    have := Nat.mul_lt_mul'' hx (Nat.lt_of_lt_of_le (show 2 ^ b < 2 ^ b + 1 by omega) (Nat.le_refl _))
    have h3 := Nat.mul_le_mul h1 h1
    have h4 : x * 2 ^ b ≤ 2 ^ b * 2 ^ b := Nat.mul_le_mul_right _ (Nat.le_of_lt hx)
    rcases Nat.lt_or_ge x (2 ^ b - 1) with h | h
    · have h5 : (x + 1) * 2 ^ b ≤ 2 ^ b * 2 ^ b := Nat.mul_le_mul_right _ hx
      have hp : 0 < 2 ^ b := Nat.two_pow_pos _
      rw [Nat.add_mul] at h5
      omega
    · have h5 : (x + 1) * 2 ^ b ≤ 2 ^ b * 2 ^ b := Nat.mul_le_mul_right _ hx
      have hp : 0 < 2 ^ b := Nat.two_pow_pos _
      rw [Nat.add_mul] at h5
      omega
  have e : (x : Int) * ((2 ^ b : Nat) : Int) = ((x * 2 ^ b : Nat) : Int) := by simp
  rw [e, u64_or_nat _ _ h2 (by omega), Nat.mul_comm x, ← Nat.two_pow_add_eq_or_of_lt hy]
theorem or_two' (x y b M : Nat) (m : Int) (hb : b ≤ 32) (hM : M = 2 ^ b) (hm : m = (M : Int)) (hx : x < M) (hy : y < M) : bits .or .u64 ((x : Int) * m) (y : Int) = ((x * M + y : Nat) : Int) := by
  subst hm hM
  exact or_two x y b hb hx hy
theorem quo_hi (q M : Nat) (hM : 0 < M) : ((q : Int) / (M : Int) != 0) = decide (M ≤ q) := by
  have e : (q : Int) / (M : Int) = ((q / M : Nat) : Int) := by simp
  rw [e, Bool.eq_iff_iff]
  simp only [bne_iff_ne, decide_eq_true_eq]
  have h := Nat.div_eq_zero_iff (a := q) (b := M)
  omega
theorem wideX8 (N : Nat) (h : N < 65536) : wrap64 ((N : Int) * 281474976710656) / 281474976710656 = sZ N 16 := by
  unfold wrap64 sZ sgn
  simp only [Nat.reduceSub, Nat.reducePow, Int.reducePow, beq_iff_eq]
  split <;> omega
theorem wideX16 (N : Nat) (h : N < 4294967296) : wrap64 ((N : Int) * 4294967296) / 4294967296 = sZ N 32 := by
  unfold wrap64 sZ sgn
  simp only [Nat.reduceSub, Nat.reducePow, Int.reducePow, beq_iff_eq]
  split <;> omega
theorem wideX32 (N : Nat) (h : N < 18446744073709551616) : wrap64 (N : Int) = sZ N 64 := by
  unfold wrap64 sZ sgn
  simp only [Nat.reduceSub, Nat.reducePow, Int.reducePow, beq_iff_eq]
  split <;> omega
set_option maxRecDepth 20000 in
theorem div_size (sg : Bool) (s : Int) (h1 : ¬ s = 1) (h2 : ¬ s = 2) (h4 : ¬ s = 4) (a b c : Int) (w : World) :
    Calls Try.prog 14 #[.bool sg, .int .i64 s, .int .u32 a, .int .u32 b, .int .u32 c] w fun e w' => e = .returned (.tuple #[.int .u32 0, .int .u32 0, .bool false, .int .i64 2]) ∧ Below w.heap.size w w' := by
  have LK := hide (sign_no w s h1 h2 h4)
  clear h1 h2 h4
  go_enter Try.func14, Try.ntmps14
  go_wp2_with fail
  refine (signs_ok _).mono ?_
  rintro e w' ⟨rfl, rfl⟩
  go_wp2_with fail
  rw [LK.out]
  go_wp2
  refine bodyPost_ret (results_tmp4 rfl _ _ _) rfl ?_
  exact ⟨rfl, (Below.refl _ _).alloc (Nat.le_refl _) _⟩
end Go.Proofs.Ytfjjipkieecpcaa
