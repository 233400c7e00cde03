/- The program's Div, whatever its arguments. -/
import Derived.Test.YtfjjipkieecpcaaMdDiv1
import Derived.Test.YtfjjipkieecpcaaMdDiv2
import Derived.Test.YtfjjipkieecpcaaMdDiv4u
import Derived.Test.YtfjjipkieecpcaaMdDiv4
namespace Go.Proofs.Ytfjjipkieecpcaa
open Go.RowKit Pl
set_option linter.unusedVariables false
theorem div_ok (sg : Bool) (s : Int) (hs : s = 1 ∨ s = 2 ∨ s = 4) (l h d : Nat) (hl : l < 4294967296) (hh : h < 4294967296) (hd : d < 4294967296) (w : World) :
    Calls Try.prog 14 #[.bool sg, .int .i64 s, .int .u32 l, .int .u32 h, .int .u32 d] w fun e w' => DivE sg (8 * s.toNat) (h % 2 ^ (8 * s.toNat) * 2 ^ (8 * s.toNat) + l % 2 ^ (8 * s.toNat)) (d % 2 ^ (8 * s.toNat)) e ∧ Below w.heap.size w w' := by
  rcases hs with rfl | rfl | rfl
  · rw [show 2 ^ (8 * Int.toNat 1) = 256 by decide, show 8 * Int.toNat 1 = 8 by decide]
    cases sg
    · exact div1_false l h d hl hh hd w
    · exact div1_true l h d hl hh hd w
  · rw [show 2 ^ (8 * Int.toNat 2) = 65536 by decide, show 8 * Int.toNat 2 = 16 by decide]
    cases sg
    · exact div2_false l h d hl hh hd w
    · exact div2_true l h d hl hh hd w
  · rw [show 2 ^ (8 * Int.toNat 4) = 4294967296 by decide, show 8 * Int.toNat 4 = 32 by decide]
    cases sg
    · exact div4_false l h d hl hh hd w
    · exact div4_true l h d hl hh hd w
end Go.Proofs.Ytfjjipkieecpcaa
