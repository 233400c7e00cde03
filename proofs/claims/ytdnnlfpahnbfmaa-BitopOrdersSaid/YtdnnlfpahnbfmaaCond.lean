/- Conditions: what the program's Cond and the document's Cond answer. -/
import Derived.Test.YtdnnlfpahnbfmaaBase
namespace Go.Proofs.Ytdnnlfpahnbfmaa
open Go.RowKit Pl

/-- whether condition k holds by flags -/
def condS (k fl : Nat) : Bool :=
  (match k / 2 with
    | 0 => hasF fl 2048
    | 1 => hasF fl 1
    | 2 => hasF fl 64
    | 3 => hasF fl 1 || hasF fl 64
    | 4 => hasF fl 128
    | 5 => hasF fl 4
    | 6 => hasF fl 128 != hasF fl 2048
    | _ => hasF fl 64 || hasF fl 128 != hasF fl 2048) != (k % 2 == 1)

set_option maxHeartbeats 1000000 in
theorem cond_ok (k : Int) (h0 : 0 ≤ k) (h1 : k < 16) (fl : Nat) (hf : fl < 4294967296) (w : World) :
    Calls Try.prog 11 #[.int .i64 k, .int .u32 fl] w fun e w' => e = .returned (.tuple #[.bool (condS k.toNat fl), .int .i64 0]) ∧ Below w.heap.size w w' := by
  have HF : Hid (fl < 4294967296) := hf
  clear hf
  rcases (by omega : k = 0 ∨ k = 1 ∨ k = 2 ∨ k = 3 ∨ k = 4 ∨ k = 5 ∨ k = 6 ∨ k = 7 ∨ k = 8 ∨ k = 9 ∨ k = 10 ∨ k = 11 ∨ k = 12 ∨ k = 13 ∨ k = 14 ∨ k = 15) with rfl | rfl | rfl | rfl | rfl | rfl | rfl | rfl | rfl | rfl | rfl | rfl | rfl | rfl | rfl | rfl
  all_goals
    clear h0 h1
    go_enter Try.func11, Try.ntmps11
    go_wp2
    all_goals
      go_ret2
      refine ⟨ret_bi (a := _) (c := 0) ?_ rfl, (Below.refl _ _).alloc (Nat.le_refl _) _⟩
      have hf := HF.out
      simp only [tst1 fl hf, tst4 fl hf, tst64 fl hf, tst128 fl hf, tst2048 fl hf, tst65 fl hf, condS] at *
      generalize hasF fl 1 = c at *
      generalize hasF fl 4 = p at *
      generalize hasF fl 64 = z at *
      generalize hasF fl 128 = s at *
      generalize hasF fl 2048 = o at *
      clear HF hf
      revert c p z s o
      decide

end Go.Proofs.Ytdnnlfpahnbfmaa
