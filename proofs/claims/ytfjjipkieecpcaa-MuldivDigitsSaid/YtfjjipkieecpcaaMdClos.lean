/- The program's adjustments at the values of the laws' heads. -/
import Derived.Test.YtfjjipkieecpcaaMdAdj
import Derived.RegionTactic
namespace Go.Proofs.Ytfjjipkieecpcaa
open Go.RowKit Pl
set_option linter.unusedVariables false

/-- the five cells of the digits, laid on top of a world -/
def dg (W0 : World) (al ah base : Int) (cf af : Bool) : World := W0.alloc (.cells #[.int .u8 al, .int .u8 ah, .int .u8 base, .bool cf, .bool af] 59)
set_option maxRecDepth 20000 in
theorem low_ok (W0 : World) (al : Nat) (ah base : Int) (cf af lo : Bool) (h : al < 256) (hlo : (decide (9 < al % 16) || af) = lo) (W : World) (hW : ∃ n, W = (dg W0 al ah base cf af).drewN n) :
    Calls Try.prog 40 #[.pointer (some ⟨W0.heap.size, 0, none⟩)] W fun e w' => e = .returned (.bool lo) ∧ W = w' := by
  obtain ⟨n, rfl⟩ := hW
  unfold dg
  have e15 : bits .and .u8 (al : Int) 15 = ((al % 16 : Nat) : Int) := by
    rw [show (15 : Int) = ((2 ^ 4 - 1 : Nat) : Int) from rfl, u8_and_nat _ _ h (by decide), Nat.and_two_pow_sub_one_eq_mod]
  subst hlo
  go_enter Try.func40, Try.ntmps40
  go_wp2
  all_goals
    go_ret
    refine ⟨ret_bool ?_, rfl⟩
    rename_i hh
    first
      | (rw [show decide (9 < (al : Int) % 16) = decide (9 < al % 16) by rw [Bool.eq_iff_iff]; simp only [decide_eq_true_eq]; omega])
      | (rw [show decide (9 < al % 16) = true by simp only [decide_eq_true_eq]; omega]; rfl)

set_option maxRecDepth 20000 in
set_option maxHeartbeats 1000000 in
theorem c39 (W0 : World) (q : Nat) (hq : q < W0.heap.size) (hs : W0.cell? ⟨q, 0, none⟩ = some (.int .u8 1)) :
    Calls Try.prog 39 #[.pointer (some ⟨W0.heap.size, 0, none⟩), .pointer (some ⟨q, 0, none⟩)] (dg W0 154 0 0 false false) fun e w' => e = .returned (.bool true) ∧ ∃ n, w' = (dg W0 0 0 0 true true).drewN n := by
  have L : ∀ _ : Unit, Calls Try.prog 40 #[.pointer (some ⟨W0.heap.size, 0, none⟩)] (dg W0 154 0 0 false false) fun e w' => e = .returned (.bool true) ∧ dg W0 154 0 0 false false = w' := fun _ => low_ok W0 154 0 0 false false true (by decide) rfl _ ⟨0, rfl⟩
  unfold dg at L ⊢
  have L' := hide L
  clear L
  go_enter Try.func39, Try.ntmps39
  go_wp2_with fail
  refine (L'.out ()).mono ?_
  rintro e w' ⟨rfl, rfl⟩
  go_wp2_with fail
  go_region
  go_wp2_with fail
  go_region
  go_wp2
  go_ret
  exact ⟨rfl, 2, rfl⟩
end Go.Proofs.Ytfjjipkieecpcaa
