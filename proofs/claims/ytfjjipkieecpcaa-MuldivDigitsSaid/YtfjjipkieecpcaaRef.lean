/- The document's Set: the flags with one of them set, or not. -/
import Derived.Test.YtfjjipkieecpcaaBase
namespace Go.Proofs.Ytfjjipkieecpcaa
open Go.RowKit Pl

theorem set_plain (fl k : Nat) (is : Bool) (_hk : 0 < k) (hf : fl < 4294967296) (hs : setF fl k is < 4294967296) (b : Bool) (hb : ((fl : Int) / (k : Int) % 2 == 1) = b) :
    ((if b then (if is then (((fl : Int) - k) % 4294967296 + k) % 4294967296 else ((fl : Int) - k) % 4294967296) else (if is then ((fl : Int) + k) % 4294967296 else (fl : Int)))) = ((setF fl k is : Nat) : Int) := by
  have e : ((fl : Int) / (k : Int) % 2) = ((fl / k % 2 : Nat) : Int) := by simp
  rw [e] at hb
  have hle : fl / k * k ≤ fl := Nat.div_mul_le_self fl k
  unfold setF at *
  rcases (by omega : fl / k % 2 = 0 ∨ fl / k % 2 = 1) with h | h
  · rw [h] at hb hs ⊢
    have : b = false := by simpa using hb.symm
    subst this
    cases is <;> simp at hs ⊢ <;> omega
  · rw [h] at hb hs ⊢
    have : b = true := by simpa using hb.symm
    subst this
    have h1 : 1 ≤ fl / k := by
      rcases Nat.eq_zero_or_pos (fl / k) with h0 | h0
      · rw [h0] at h; simp at h
      · exact h0
    have h2 : k ≤ fl := by
      have := Nat.mul_le_mul_right k h1
      omega
    cases is <;> simp at hs ⊢ <;> omega

set_option maxRecDepth 20000 in
set_option maxHeartbeats 1000000 in
theorem set_ok (fl : Nat) (k : Int) (is : Bool) (hk : k = 1 ∨ k = 4 ∨ k = 16 ∨ k = 64 ∨ k = 128 ∨ k = 2048) (hf : fl < 4294967296) (w : World) :
    Calls Try.prog 27 #[.int .u32 fl, .int .u32 k, .bool is] w fun e w' => e = .returned (.int .u32 ((setF fl k.toNat is : Nat) : Int)) ∧ w = w' := by
  have hs : setF fl k.toNat is < 4294967296 := by
    rcases hk with rfl | rfl | rfl | rfl | rfl | rfl
    · exact setF_lt fl 0 is (by decide) hf
    · exact setF_lt fl 2 is (by decide) hf
    · exact setF_lt fl 4 is (by decide) hf
    · exact setF_lt fl 6 is (by decide) hf
    · exact setF_lt fl 7 is (by decide) hf
    · exact setF_lt fl 11 is (by decide) hf
  have hp := fun b hb => set_plain fl k.toNat is (by omega) hf hs b hb
  have HP := hide hp
  clear hp hs
  rcases hk with rfl | rfl | rfl | rfl | rfl | rfl
  all_goals
    cases is
    all_goals
      go_enter Try.func27, Try.ntmps27
      go_wp2
      all_goals
        go_ret
        have hp := HP.out
        refine ⟨ret_int ?_, rfl⟩
        rename_i hb
        first
          | simpa using hp true (by simpa using hb)
          | simpa using hp false (by simpa using hb)
end Go.Proofs.Ytfjjipkieecpcaa
