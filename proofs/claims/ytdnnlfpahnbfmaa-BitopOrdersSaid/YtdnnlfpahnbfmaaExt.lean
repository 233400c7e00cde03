/- Wider values: what the program's Extend and the document's answer. -/
import Derived.Test.YtdnnlfpahnbfmaaScan
namespace Go.Proofs.Ytdnnlfpahnbfmaa
open Go.RowKit Pl

def extN (signed : Bool) (f t a : Nat) : Nat := if signed && sgn (a % 2 ^ (8 * f)) (8 * f) then a % 2 ^ (8 * f) + 2 ^ (8 * t) - 2 ^ (8 * f) else a % 2 ^ (8 * f)

theorem and_litI (z : Int) (k : Nat) (hk : k ≤ 32) (h0 : 0 ≤ z) (h1 : z < 4294967296) : bits .and .u32 z (((2 ^ k - 1 : Nat) : Int)) = z % 2 ^ k := by
  obtain ⟨n, rfl⟩ := Int.eq_ofNat_of_zero_le h0
  rw [and_lit n k hk (by omega)]
  simp
theorem and8 (z : Int) (h0 : 0 ≤ z) (h1 : z < 4294967296) : bits .and .u32 z 255 = z % 256 := and_litI z 8 (by decide) h0 h1
theorem and16 (z : Int) (h0 : 0 ≤ z) (h1 : z < 4294967296) : bits .and .u32 z 65535 = z % 65536 := and_litI z 16 (by decide) h0 h1
theorem and32 (z : Int) (h0 : 0 ≤ z) (h1 : z < 4294967296) : bits .and .u32 z 4294967295 = z % 4294967296 := and_litI z 32 (by decide) h0 h1

set_option maxRecDepth 20000 in
set_option maxHeartbeats 4000000 in
theorem ext_ok (signed : Bool) (f t : Int) (hs : f = 1 ∧ t = 1 ∨ f = 1 ∧ t = 2 ∨ f = 1 ∧ t = 4 ∨ f = 2 ∧ t = 2 ∨ f = 2 ∧ t = 4 ∨ f = 4 ∧ t = 4) (a : Nat) (ha : a < 4294967296) (w : World) :
    Calls Try.prog 17 #[.bool signed, .int .i64 f, .int .i64 t, .int .u32 a] w fun e w' => e = .returned (.tuple #[.int .u32 ((extN signed f.toNat t.toNat a : Nat) : Int), .int .i64 0]) ∧ w = w' := by
  rcases hs with ⟨rfl, rfl⟩ | ⟨rfl, rfl⟩ | ⟨rfl, rfl⟩ | ⟨rfl, rfl⟩ | ⟨rfl, rfl⟩ | ⟨rfl, rfl⟩
  all_goals
    cases signed
    all_goals
      go_enter Try.func17, Try.ntmps17
      go_wp2
      go_ret2
      refine ⟨ret_ii ?_ rfl, rfl⟩
      unfold extN sgn
      simp only [Int.reduceToNat, Nat.reduceMul, Nat.reducePow, Nat.reduceSub, Bool.false_and, Bool.true_and, Bool.false_eq_true, if_false, beq_iff_eq]
      first
        | (rw [and8 _ (by omega) (by omega)]; first | (simp; done) | (unfold wrap32; split <;> omega))
        | (rw [and16 _ (by omega) (by omega)]; first | (simp; done) | (unfold wrap32; split <;> omega))
        | (rw [and32 _ (by omega) (by omega)]; first | (simp; done) | (unfold wrap32; split <;> omega))

set_option maxRecDepth 20000 in
set_option maxHeartbeats 4000000 in
theorem refext_ok (signed : Bool) (f t : Int) (hs : f = 1 ∧ t = 1 ∨ f = 1 ∧ t = 2 ∨ f = 1 ∧ t = 4 ∨ f = 2 ∧ t = 2 ∨ f = 2 ∧ t = 4 ∨ f = 4 ∧ t = 4) (a : Nat) (ha : a < 4294967296) (w : World) :
    Calls Try.prog 18 #[.bool signed, .int .i64 f, .int .i64 t, .int .u32 a] w fun e w' => e = .returned (.tuple #[.int .u32 ((extN signed f.toNat t.toNat a : Nat) : Int), .int .i64 0]) ∧ w = w' := by
  rcases hs with ⟨rfl, rfl⟩ | ⟨rfl, rfl⟩ | ⟨rfl, rfl⟩ | ⟨rfl, rfl⟩ | ⟨rfl, rfl⟩ | ⟨rfl, rfl⟩
  all_goals
    cases signed
    all_goals
      go_enter Try.func18, Try.ntmps18
      go_wp2
      all_goals
        go_ret2
        refine ⟨ret_ii ?_ rfl, rfl⟩
        unfold extN sgn
        simp only [Int.reduceToNat, Nat.reduceMul, Nat.reducePow, Nat.reduceSub, Bool.false_and, Bool.true_and, Bool.false_eq_true, if_false, beq_iff_eq]
        first
          | (simp; done)
          | (rename_i hb
             simp only [beq_iff_eq, beq_eq_false_iff_ne, ne_eq] at hb
             split <;> omega)

end Go.Proofs.Ytdnnlfpahnbfmaa
