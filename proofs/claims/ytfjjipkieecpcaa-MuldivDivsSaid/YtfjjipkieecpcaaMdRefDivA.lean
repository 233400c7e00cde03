/- The document's Div, whatever its arguments. -/
import Derived.Test.YtfjjipkieecpcaaMdRefDiv1
import Derived.Test.YtfjjipkieecpcaaMdRefDiv2
import Derived.Test.YtfjjipkieecpcaaMdRefDiv4
namespace Go.Proofs.Ytfjjipkieecpcaa
open Go.RowKit Pl
set_option linter.unusedVariables false
theorem refdiv_ok (sg : Bool) (s : Int) (hs : s = 1 ∨ s = 2 ∨ s = 4) (l h d : Nat) (hl : l < 4294967296) (hh : h < 4294967296) (hd : d < 4294967296) (w : World) :
    Calls Try.prog 15 #[.bool sg, .int .i64 s, .int .u32 l, .int .u32 h, .int .u32 d] w fun e w' => DivE sg (8 * s.toNat) (h % 2 ^ (8 * s.toNat) * 2 ^ (8 * s.toNat) + l % 2 ^ (8 * s.toNat)) (d % 2 ^ (8 * s.toNat)) e ∧ Below w.heap.size w w' := by
  rcases hs with rfl | rfl | rfl
  · rw [show 2 ^ (8 * Int.toNat 1) = 256 by decide, show 8 * Int.toNat 1 = 8 by decide]
    cases sg
    · exact refdiv1_false l h d hl hh hd w
    · exact refdiv1_true l h d hl hh hd w
  · rw [show 2 ^ (8 * Int.toNat 2) = 65536 by decide, show 8 * Int.toNat 2 = 16 by decide]
    cases sg
    · exact refdiv2_false l h d hl hh hd w
    · exact refdiv2_true l h d hl hh hd w
  · rw [show 2 ^ (8 * Int.toNat 4) = 4294967296 by decide, show 8 * Int.toNat 4 = 32 by decide]
    cases sg
    · exact refdiv4_false l h d hl hh hd w
    · exact refdiv4_true l h d hl hh hd w
set_option maxRecDepth 20000 in
theorem refdiv_size (sg : Bool) (s : Int) (h1 : ¬ s = 1) (h2 : ¬ s = 2) (h4 : ¬ s = 4) (a b c : Int) (w : World) :
    Calls Try.prog 15 #[.bool sg, .int .i64 s, .int .u32 a, .int .u32 b, .int .u32 c] w fun e w' => e = .returned (.tuple #[.int .u32 0, .int .u32 0, .bool false, .int .i64 2]) ∧ Below w.heap.size w w' := by
  have k1 : (s == 1) = false := by simpa using h1
  have k2 : (s == 2) = false := by simpa using h2
  have k4 : (s == 4) = false := by simpa using h4
  clear h1 h2 h4
  go_enter Try.func15, Try.ntmps15
  go_wp2
  refine bodyPost_ret (results_tmp4 rfl _ _ _) rfl ?_
  exact ⟨rfl, Below.refl _ _⟩
end Go.Proofs.Ytfjjipkieecpcaa
