/- What the walks lean on: numbers of flags as Go writes them, read as plain tests; the steps of a world. -/
import Derived.Test.YtfjjipkieecpcaaProg
import Derived.Test.YtfjjipkieecpcaaPlain
import Derived.WalkKit
import Derived.WalkSpells
import Derived.WalkLawsBesides
import Derived.Below
namespace Go.Proofs.Ytfjjipkieecpcaa
open Go.RowKit Pl

theorem and_pow (x k : Nat) : (x &&& 2 ^ k != 0) = hasF x (2 ^ k) := by
  unfold hasF
  rw [nat_bit]
  have hp : 0 < 2 ^ k := Nat.two_pow_pos _
  rcases (by omega : x / 2 ^ k % 2 = 0 ∨ x / 2 ^ k % 2 = 1) with h | h
  · simp [h]
  · simp [h]

theorem cast_ne_zero (n : Nat) : (((n : Nat) : Int) != 0) = (n != 0) := by
  rw [Bool.eq_iff_iff]; simp

theorem tst (fl k : Nat) (hf : fl < 4294967296) (hk : k < 32) : (bits .and .u32 (fl : Int) ((2 ^ k : Nat) : Int) != 0) = hasF fl (2 ^ k) := by
  rw [u32_and_nat _ _ hf (Nat.pow_lt_pow_right (by decide) hk), cast_ne_zero, and_pow]
theorem tst1 (fl : Nat) (hf : fl < 4294967296) : (bits .and .u32 (fl : Int) 1 != 0) = hasF fl 1 := tst fl 0 hf (by decide)
theorem tst4 (fl : Nat) (hf : fl < 4294967296) : (bits .and .u32 (fl : Int) 4 != 0) = hasF fl 4 := tst fl 2 hf (by decide)
theorem tst16 (fl : Nat) (hf : fl < 4294967296) : (bits .and .u32 (fl : Int) 16 != 0) = hasF fl 16 := tst fl 4 hf (by decide)
theorem tst64 (fl : Nat) (hf : fl < 4294967296) : (bits .and .u32 (fl : Int) 64 != 0) = hasF fl 64 := tst fl 6 hf (by decide)
theorem tst128 (fl : Nat) (hf : fl < 4294967296) : (bits .and .u32 (fl : Int) 128 != 0) = hasF fl 128 := tst fl 7 hf (by decide)
theorem tst2048 (fl : Nat) (hf : fl < 4294967296) : (bits .and .u32 (fl : Int) 2048 != 0) = hasF fl 2048 := tst fl 11 hf (by decide)
theorem tst65 (fl : Nat) (hf : fl < 4294967296) : (bits .and .u32 (fl : Int) 65 != 0) = (hasF fl 1 || hasF fl 64) := by
  rw [← tst1 fl hf, ← tst64 fl hf, show ((65 : Int)) = ((65 : Nat) : Int) from rfl, show ((64 : Int)) = ((64 : Nat) : Int) from rfl, show ((1 : Int)) = ((1 : Nat) : Int) from rfl,
    u32_and_nat _ _ hf (by decide), u32_and_nat _ _ hf (by decide), u32_and_nat _ _ hf (by decide), cast_ne_zero, cast_ne_zero, cast_ne_zero,
    show (65 : Nat) = 1 ||| 64 from rfl, Nat.and_or_distrib_left]
  rw [Bool.eq_iff_iff]
  simp [Nat.or_eq_zero_iff]
  omega

theorem hide {p : Prop} (h : p) : Hid p := h
theorem below_drewN {B : Nat} {a w : World} (h : Below B a w) (n : Nat) : Below B a (w.drewN n) := ⟨h.os, h.tape, h.output, h.size, h.block⟩
theorem bcell {W w1 : World} (hb : Below W.heap.size W w1) : (∀ b o, b < W.heap.size → w1.cell? ⟨b, o, none⟩ = W.cell? ⟨b, o, none⟩) ∧ (∀ b o, b < W.heap.size → w1.frozen? ⟨b, o, none⟩ = W.frozen? ⟨b, o, none⟩) :=
  ⟨fun b o h => hb.cell (p := ⟨b, o, none⟩) h, fun b o h => hb.frozen (p := ⟨b, o, none⟩) h⟩

theorem u32_nat {a : Int} (h : (Lit.int .u32 a).wf = true) : ∃ n : Nat, a = (n : Int) ∧ n < 4294967296 := by
  have hmin : IntKind.u32.min = 0 := rfl
  have hmax : IntKind.u32.max = 4294967295 := rfl
  simp only [Lit.wf, Bool.and_eq_true, decide_eq_true_eq] at h
  exact ⟨a.toNat, by omega, by omega⟩
theorem i64_bounds {a : Int} (h : (Lit.int .i64 a).wf = true) : -9223372036854775808 ≤ a ∧ a ≤ 9223372036854775807 := by
  have hmin : IntKind.i64.min = -9223372036854775808 := rfl
  have hmax : IntKind.i64.max = 9223372036854775807 := rfl
  simp only [Lit.wf, Bool.and_eq_true, decide_eq_true_eq] at h
  omega
theorem i32_bounds {a : Int} (h : (Lit.int .i32 a).wf = true) : -2147483648 ≤ a ∧ a ≤ 2147483647 := by
  have hmin : IntKind.i32.min = -2147483648 := rfl
  have hmax : IntKind.i32.max = 2147483647 := rfl
  simp only [Lit.wf, Bool.and_eq_true, decide_eq_true_eq] at h
  omega
theorem ret_bool {a b : Bool} (h : a = b) : Ending.returned (.bool a) = .returned (.bool b) := by rw [h]
theorem ret_int {k : IntKind} {a b : Int} (h : a = b) : Ending.returned (.int k a) = .returned (.int k b) := by rw [h]
theorem ret_bi {a b : Bool} {k : IntKind} {c d : Int} (h : a = b) (g : c = d) : Ending.returned (.tuple #[.bool a, .int k c]) = .returned (.tuple #[.bool b, .int k d]) := by rw [h, g]
theorem ret_ii {a b : Int} {j k : IntKind} {c d : Int} (h : a = b) (g : c = d) : Ending.returned (.tuple #[.int j a, .int k c]) = .returned (.tuple #[.int j b, .int k d]) := by rw [h, g]
theorem ret_iii {a b : Int} {i j k : IntKind} {c d e f : Int} (h : a = b) (g : c = d) (l : e = f) : Ending.returned (.tuple #[.int i a, .int j c, .int k e]) = .returned (.tuple #[.int i b, .int j d, .int k f]) := by rw [h, g, l]
theorem ret_ibii {a b : Int} {p q : Bool} {i j k : IntKind} {c d e f : Int} (h : a = b) (hp : p = q) (g : c = d) (l : e = f) : Ending.returned (.tuple #[.int i a, .bool p, .int j c, .int k e]) = .returned (.tuple #[.int i b, .bool q, .int j d, .int k f]) := by rw [h, hp, g, l]
theorem results_tmp4 {fn : Func} {t u v x : Tmp} (h : fn.results = #[.tmp t, .tmp u, .tmp v, .tmp x]) (tmps : Array Value) (P : Program) (w : World) :
    (results fn tmps).run P w = .ok (.tuple #[tmps.getD t undef, tmps.getD u undef, tmps.getD v undef, tmps.getD x undef]) w := by simp [results, h]
theorem results_tmp5 {fn : Func} {t u v x y : Tmp} (h : fn.results = #[.tmp t, .tmp u, .tmp v, .tmp x, .tmp y]) (tmps : Array Value) (P : Program) (w : World) :
    (results fn tmps).run P w = .ok (.tuple #[tmps.getD t undef, tmps.getD u undef, tmps.getD v undef, tmps.getD x undef, tmps.getD y undef]) w := by simp [results, h]
end Go.Proofs.Ytfjjipkieecpcaa
