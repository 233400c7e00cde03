/- What the program's Double lays in memory, and its inner function there. -/
import Derived.Test.YtlchhlfnndeicaaShAt
import Derived.Test.YtlchhlfnndeicaaShDo
namespace Go.Proofs.Ytlchhlfnndeicaa
open Go.RowKit Pl
set_option linter.unusedVariables false

namespace Pl
/-- a number out of its lowest m bits -/
def ofB (f : Nat → Bool) : Nat → Nat
  | 0 => 0
  | m + 1 => ofB f m + (f m).toNat * 2 ^ m
theorem ofB_lt (f : Nat → Bool) (m : Nat) : ofB f m < 2 ^ m := by
  induction m with
  | zero => exact Nat.one_pos
  | succ m ih =>
    rw [Nat.pow_succ]
    unfold ofB
    cases f m <;> simp <;> omega
theorem ofB_bit (f : Nat → Bool) (m i : Nat) : (ofB f m).testBit i = if i < m then f i else false := by
  induction m with
  | zero => simp [ofB]
  | succ m ih =>
    have e : ofB f (m + 1) = 2 ^ m * (f m).toNat + ofB f m := by
      show ofB f m + (f m).toNat * 2 ^ m = _
      rw [Nat.mul_comm, Nat.add_comm]
    rw [e, Nat.testBit_two_pow_mul_add _ (ofB_lt f m)]
    by_cases h : i < m
    · rw [if_pos h, ih, if_pos h, if_pos (by omega)]
    · rw [if_neg h]
      by_cases h2 : i = m
      · subst h2
        rw [Nat.sub_self, if_pos (by omega)]
        cases f i <;> rfl
      · rw [if_neg (by omega)]
        have : ∃ d, i - m = d + 1 := ⟨i - m - 1, by omega⟩
        obtain ⟨d, hd⟩ := this
        rw [hd, Nat.testBit_succ]
        cases f m <;> simp
/-- where the result's bits begin in the three values -/
def dblS (to : Bool) (b k : Nat) : Nat := if to then 2 * b - k else k
def dblR (to : Bool) (b x y k : Nat) : Nat := ofB (fun i => bit3 to b x y (dblS to b k + i)) b
def dblC (to : Bool) (b x y k : Nat) : Bool := bit3 to b x y (if to then 3 * b - k else k - 1)
def dblF (to : Bool) (b x y k fl : Nat) : Nat :=
  byF (dblR to b x y k) b (setF (setF (setF fl 16 false) 1 (dblC to b x y k)) 2048 ((dblR to b x y k).testBit (b - 1) != x.testBit (b - 1)))
theorem or_bit (r i : Nat) (c : Bool) (hr : r < 2 ^ i) (hi : i < 64) : ((r : Nat) ||| (c.toNat * 2 ^ i)) = r + c.toNat * 2 ^ i := by
  rw [Nat.or_comm, Nat.mul_comm, ← Nat.two_pow_add_eq_or_of_lt hr, Nat.add_comm]
end Pl

/-- the captured variables of Double -/
structure Mem (H : Nat) (B : Int) (x y p q : Nat) (to : Bool) (w : World) : Prop where
  big : H < w.heap.size ∧ H + 1 < w.heap.size ∧ p < w.heap.size ∧ q < w.heap.size
  cl : w.cell? ⟨H, 0, none⟩ = some (.bool to)
  cb : w.cell? ⟨H + 1, 0, none⟩ = some (.int .u64 B)
  cx : w.cell? ⟨p, 0, none⟩ = some (.int .u64 x)
  cy : w.cell? ⟨q, 0, none⟩ = some (.int .u64 y)
theorem Mem.step {H : Nat} {B : Int} {x y p q : Nat} {to : Bool} {w w' : World} (h : Mem H B x y p q to w) (hb : Below w.heap.size w w') : Mem H B x y p q to w' := by
  obtain ⟨⟨g1, g2, g3, g4⟩, h1, h2, h3, h4⟩ := h
  have hs := hb.size
  exact ⟨⟨by omega, by omega, by omega, by omega⟩, (hb.cell (p := ⟨H, 0, none⟩) g1).trans h1, (hb.cell (p := ⟨H + 1, 0, none⟩) g2).trans h2, (hb.cell (p := ⟨p, 0, none⟩) g3).trans h3, (hb.cell (p := ⟨q, 0, none⟩) g4).trans h4⟩

theorem at_mem (H : Nat) (B : Int) (x y p q : Nat) (to : Bool) (hb : B = 16 ∨ B = 32) (hx : x < 18446744073709551616) (hy : y < 18446744073709551616) (j : Nat) (hj : j < 3 * B.toNat) (z : Int) (hz : z = (j : Int)) (w : World) (hm : Mem H B x y p q to w) :
    Calls Try.prog 24 #[.int .u64 z, .pointer (some ⟨p, 0, none⟩), .pointer (some ⟨q, 0, none⟩), .pointer (some ⟨H, 0, none⟩), .pointer (some ⟨H + 1, 0, none⟩)] w fun e w' => e = .returned (.int .u64 (((bit3 to B.toNat x y j).toNat : Nat) : Int)) ∧ Mem H B x y p q to w' ∧ Below w.heap.size w w' := by
  subst hz
  obtain ⟨⟨g1, g2, g3, g4⟩, h1, h2, h3, h4⟩ := hm
  refine (at_ok B x y j to hb hj hx hy ⟨p, 0, none⟩ ⟨q, 0, none⟩ ⟨H, 0, none⟩ ⟨H + 1, 0, none⟩ w g3 g4 g1 g2 h3 h4 h1 h2).mono ?_
  rintro e w' ⟨rfl, hb'⟩
  exact ⟨rfl, Mem.step ⟨⟨g1, g2, g3, g4⟩, h1, h2, h3, h4⟩ hb', hb'⟩
theorem quiet_left {P : Program} {f : FuncId} {args : Array Value} {w : World} {n : Nat} {v : Value}
    (h : Calls P f args (w.drewN n) fun e w' => e = .returned v ∧ w.drewN n = w') : Calls P f args (w.drewN n) fun e w'' => e = .returned v ∧ ∃ m, w'' = w.drewN m :=
  h.mono fun _ _ ⟨he, hm⟩ => ⟨he, n, hm.symm⟩
theorem flag_bit (f : Int) (hf : f = 1 ∨ f = 2048) (c : Bool) (w : World) :
    Calls Try.prog 18 #[.int .u32 f, .int .u64 ((c.toNat : Nat) : Int)] w fun e w' => e = .returned (.int .u32 ((put f.toNat c : Nat) : Int)) ∧ w = w' := by
  have h := flag_ok f hf c.toNat (by cases c <;> decide) w
  have e : (c.toNat % 2 == 1) = c := by cases c <;> rfl
  rw [e] at h
  exact h
theorem xor_top (r x b : Nat) (hr : r < 18446744073709551616) (hx : x < 18446744073709551616) : ((r ^^^ x) / 2 ^ (b - 1) % 2 == 1) = (r.testBit (b - 1) != x.testBit (b - 1)) := by
  rw [xor_div, xor_b, bit_eq, bit_eq]
theorem xor_div_lt (r x d : Nat) (hr : r < 18446744073709551616) (hx : x < 18446744073709551616) : bits .xor .u64 (r : Int) (x : Int) / (d : Int) = (((r ^^^ x) / d : Nat) : Int) := by
  rw [u64_xor_nat _ _ hr hx]
  simp
theorem or_step (r m : Nat) (c : Bool) (hr : r < 2 ^ m) (hm : m < 64) : bits .or .u64 (r : Int) (IntKind.u64.wrap (((c.toNat : Nat) : Int) * 2 ^ m)) = ((r + c.toNat * 2 ^ m : Nat) : Int) := by
  have h1 : 2 ^ m ≤ 2 ^ 63 := Nat.pow_le_pow_right (by decide) (by omega)
  have h2 : c.toNat * 2 ^ m < 2 ^ 64 := by cases c <;> simp <;> omega
  have e : IntKind.u64.wrap (((c.toNat : Nat) : Int) * 2 ^ m) = ((c.toNat * 2 ^ m : Nat) : Int) := by
    have e1 : ((c.toNat : Nat) : Int) * 2 ^ m = ((c.toNat * 2 ^ m : Nat) : Int) := by simp
    rw [e1]
    show ((c.toNat * 2 ^ m : Nat) : Int) % 18446744073709551616 = _
    omega
  rw [e, u64_or_nat _ _ (by omega) h2, or_bit r m c hr hm]
theorem wrap_sub (n k : Nat) (hn : n < 18446744073709551616) (hk : k ≤ n) : IntKind.u64.wrap (IntKind.u64.wrap (n : Int) - (k : Int)) = ((n - k : Nat) : Int) := by
  show ((n : Int) % 18446744073709551616 - (k : Int)) % 18446744073709551616 = _
  omega
theorem cell4 (w : World) (v1 v2 v3 v4 : Value) (t1 t2 t3 t4 : TypeId) :
    ((((w.alloc (.cells #[v1] t1)).alloc (.cells #[v2] t2)).alloc (.cells #[v3] t3)).alloc (.cells #[v4] t4)).cell? ⟨w.heap.size, 0, none⟩ = some v1 ∧
    ((((w.alloc (.cells #[v1] t1)).alloc (.cells #[v2] t2)).alloc (.cells #[v3] t3)).alloc (.cells #[v4] t4)).cell? ⟨w.heap.size + 1, 0, none⟩ = some v2 ∧
    ((((w.alloc (.cells #[v1] t1)).alloc (.cells #[v2] t2)).alloc (.cells #[v3] t3)).alloc (.cells #[v4] t4)).cell? ⟨w.heap.size + 1 + 1, 0, none⟩ = some v3 ∧
    ((((w.alloc (.cells #[v1] t1)).alloc (.cells #[v2] t2)).alloc (.cells #[v3] t3)).alloc (.cells #[v4] t4)).cell? ⟨w.heap.size + 1 + 1 + 1, 0, none⟩ = some v4 := by
  have s1 : (w.alloc (.cells #[v1] t1)).heap.size = w.heap.size + 1 := by simp
  have s2 : ((w.alloc (.cells #[v1] t1)).alloc (.cells #[v2] t2)).heap.size = w.heap.size + 1 + 1 := by simp
  have s3 : (((w.alloc (.cells #[v1] t1)).alloc (.cells #[v2] t2)).alloc (.cells #[v3] t3)).heap.size = w.heap.size + 1 + 1 + 1 := by simp
  refine ⟨?_, ?_, ?_, ?_⟩
  · rw [World.cell?_alloc_past _ _ _ (by omega), World.cell?_alloc_past _ _ _ (by omega), World.cell?_alloc_past _ _ _ (by omega), World.cell?_alloc_at _ _ _ _ rfl]
    rfl
  · rw [World.cell?_alloc_past _ _ _ (by omega), World.cell?_alloc_past _ _ _ (by omega), World.cell?_alloc_at _ _ _ _ s1.symm]
    rfl
  · rw [World.cell?_alloc_past _ _ _ (by omega), World.cell?_alloc_at _ _ _ _ s2.symm]
    rfl
  · rw [World.cell?_alloc_at _ _ _ _ s3.symm]
    rfl
theorem flags2a_int (fl : Nat) (c o : Bool) (hf : fl < 4294967296) : bits .or .u32 (bits .or .u32 (bits .andNot .u32 (fl : Int) 2065) ((put 1 c : Nat) : Int)) ((put 2048 o : Nat) : Int) = ((setF (setF (setF fl 16 false) 1 c) 2048 o : Nat) : Int) := by
  have l0 : fl &&& (4294967295 - 2065) < 2 ^ 32 := Nat.and_lt_two_pow _ (by decide)
  have l1 : put 1 c < 2 ^ 32 := put_lt _ _ (by decide)
  have l2 : put 2048 o < 2 ^ 32 := put_lt _ _ (by decide)
  rw [show (2065 : Int) = ((2065 : Nat) : Int) from rfl, u32_andNot_nat _ _ hf (by decide), u32_or_nat _ _ l0 l1, u32_or_nat _ _ (Nat.or_lt_two_pow l0 l1) l2, asm2a _ _ _ hf]
end Go.Proofs.Ytlchhlfnndeicaa
