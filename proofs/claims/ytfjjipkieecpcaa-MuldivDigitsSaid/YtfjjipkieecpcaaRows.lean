/-
  No cell of these rows narrows 'for every input' (looked for: loops, veiled, ifaces, maps, wideKeys, modest, calm, conditions, laid).
  DERIVED. THE GIVEN ROWS OF THIS SEAT. 8 by the template 'for every input the law returns true; each argument reads behind the call as it read before'; 0 by the template 'total and deterministic' (their statements: YtfjjipkieecpcaaTotals.lean).
  GIVEN WITH THE SEED: the statements are not yours to turn. If you find one false, say at which input.
  Laid BY PROGRAM, IN A SANDBOX (cutbox-rows.mjs): the forced cells as the released guide's own fill.sh prints them over the translation f27b210592edde20… (all of the seat's roots in one cut). By AI agents, Wed Nov 11 2026. No macro, syntax, notation, axiom, sorry.
-/
import Derived.Test.YtfjjipkieecpcaaChecked
import GoSem.Claim
import GoSem.ClaimJoined
import GoSem.ClaimMapViews
import Derived.JoinedTies
import Derived.KernelRfl
namespace Go.Proofs.Ytfjjipkieecpcaa
/- THE CELL 'sum', in the pinned program and in every row, IS THE sha256 OF THE DUMP (.gsa) THAT YtfjjipkieecpcaaProg.lean LOADS. Nothing in Lean hashes anything: it is a label: what it is worth is what the hold of that sum in a sandbox is worth. -/
noncomputable def Try.pinned : Pinned := { name := "ytfjjipkieecpcaa", sum := "f27b210592edde2046e55ffc5d2b5e630cc92b5b4500979c24e8a8dda40817f0", checked := Try.checked }
namespace Rows
def none {H : Type} : Left H := { results := [], args := [] }

/-- 'drawloomlaw03.MuldivTurns': WHATEVER THE INPUT: true; the input reads as it did. -/
def muldivTurnsSpec : ChangeSpec := { name := "muldivTurns", fn := fun _ => fun
  | [d1, d2, d3, d4] => { results := [.lit (.bool true)], args := [d1, d2, d3, d4] }
  | _ => none }
def muldivTurnsRow : OpenClaim := { program := "ytfjjipkieecpcaa", sum := "f27b210592edde2046e55ffc5d2b5e630cc92b5b4500979c24e8a8dda40817f0", func := "drawloom/drawloomlaw03.MuldivTurns", spec := "muldivTurns", unfollowed := true, recurses := true, apart := false }
def MuldivTurnsSaid : Prop := muldivTurnsRow.holds Try.pinned (OpenSpec.ofChange muldivTurnsSpec)

/-- ITS FALSE NEIGHBOUR: 'it returns false'. Refute it at one input. -/
def muldivTurnsWrong : ChangeSpec := { name := "muldivTurns", fn := fun _ => fun
  | [d1, d2, d3, d4] => { results := [.lit (.bool false)], args := [d1, d2, d3, d4] }
  | _ => none }
def MuldivTurnsWrongFalsely : Prop := muldivTurnsRow.holds Try.pinned (OpenSpec.ofChange muldivTurnsWrong)

/-- 'drawloomlaw03.MuldivNames': WHATEVER THE INPUT: true; the input reads as it did. -/
def muldivNamesSpec : ChangeSpec := { name := "muldivNames", fn := fun _ => fun
  | [] => { results := [.lit (.bool true)], args := [] }
  | _ => none }
def muldivNamesRow : OpenClaim := { program := "ytfjjipkieecpcaa", sum := "f27b210592edde2046e55ffc5d2b5e630cc92b5b4500979c24e8a8dda40817f0", func := "drawloom/drawloomlaw03.MuldivNames", spec := "muldivNames", unfollowed := true, recurses := true, apart := false }
def MuldivNamesSaid : Prop := muldivNamesRow.holds Try.pinned (OpenSpec.ofChange muldivNamesSpec)

/-- ITS FALSE NEIGHBOUR: 'it returns false'. Refute it at one input. -/
def muldivNamesWrong : ChangeSpec := { name := "muldivNames", fn := fun _ => fun
  | [] => { results := [.lit (.bool false)], args := [] }
  | _ => none }
def MuldivNamesWrongFalsely : Prop := muldivNamesRow.holds Try.pinned (OpenSpec.ofChange muldivNamesWrong)

/-- 'drawloomlaw03.MuldivMuls': WHATEVER THE INPUT: true; the input reads as it did. -/
def muldivMulsSpec : ChangeSpec := { name := "muldivMuls", fn := fun _ => fun
  | [d1, d2, d3, d4, d5] => { results := [.lit (.bool true)], args := [d1, d2, d3, d4, d5] }
  | _ => none }
def muldivMulsRow : OpenClaim := { program := "ytfjjipkieecpcaa", sum := "f27b210592edde2046e55ffc5d2b5e630cc92b5b4500979c24e8a8dda40817f0", func := "drawloom/drawloomlaw03.MuldivMuls", spec := "muldivMuls", unfollowed := true, recurses := true, apart := false }
def MuldivMulsSaid : Prop := muldivMulsRow.holds Try.pinned (OpenSpec.ofChange muldivMulsSpec)

/-- ITS FALSE NEIGHBOUR: 'it returns false'. Refute it at one input. -/
def muldivMulsWrong : ChangeSpec := { name := "muldivMuls", fn := fun _ => fun
  | [d1, d2, d3, d4, d5] => { results := [.lit (.bool false)], args := [d1, d2, d3, d4, d5] }
  | _ => none }
def MuldivMulsWrongFalsely : Prop := muldivMulsRow.holds Try.pinned (OpenSpec.ofChange muldivMulsWrong)

/-- 'drawloomlaw03.MuldivDivs': WHATEVER THE INPUT: true; the input reads as it did. -/
def muldivDivsSpec : ChangeSpec := { name := "muldivDivs", fn := fun _ => fun
  | [d1, d2, d3, d4, d5] => { results := [.lit (.bool true)], args := [d1, d2, d3, d4, d5] }
  | _ => none }
def muldivDivsRow : OpenClaim := { program := "ytfjjipkieecpcaa", sum := "f27b210592edde2046e55ffc5d2b5e630cc92b5b4500979c24e8a8dda40817f0", func := "drawloom/drawloomlaw03.MuldivDivs", spec := "muldivDivs", unfollowed := true, recurses := true, apart := false }
def MuldivDivsSaid : Prop := muldivDivsRow.holds Try.pinned (OpenSpec.ofChange muldivDivsSpec)

/-- ITS FALSE NEIGHBOUR: 'it returns false'. Refute it at one input. -/
def muldivDivsWrong : ChangeSpec := { name := "muldivDivs", fn := fun _ => fun
  | [d1, d2, d3, d4, d5] => { results := [.lit (.bool false)], args := [d1, d2, d3, d4, d5] }
  | _ => none }
def MuldivDivsWrongFalsely : Prop := muldivDivsRow.holds Try.pinned (OpenSpec.ofChange muldivDivsWrong)

/-- 'drawloomlaw03.MuldivAdjusts': WHATEVER THE INPUT: true; the input reads as it did. -/
def muldivAdjustsSpec : ChangeSpec := { name := "muldivAdjusts", fn := fun _ => fun
  | [d1, d2, d3, d4, d5] => { results := [.lit (.bool true)], args := [d1, d2, d3, d4, d5] }
  | _ => none }
def muldivAdjustsRow : OpenClaim := { program := "ytfjjipkieecpcaa", sum := "f27b210592edde2046e55ffc5d2b5e630cc92b5b4500979c24e8a8dda40817f0", func := "drawloom/drawloomlaw03.MuldivAdjusts", spec := "muldivAdjusts", unfollowed := true, recurses := true, apart := false }
def MuldivAdjustsSaid : Prop := muldivAdjustsRow.holds Try.pinned (OpenSpec.ofChange muldivAdjustsSpec)

/-- ITS FALSE NEIGHBOUR: 'it returns false'. Refute it at one input. -/
def muldivAdjustsWrong : ChangeSpec := { name := "muldivAdjusts", fn := fun _ => fun
  | [d1, d2, d3, d4, d5] => { results := [.lit (.bool false)], args := [d1, d2, d3, d4, d5] }
  | _ => none }
def MuldivAdjustsWrongFalsely : Prop := muldivAdjustsRow.holds Try.pinned (OpenSpec.ofChange muldivAdjustsWrong)

/-- 'drawloomlaw03.MuldivBack': WHATEVER THE INPUT: true; the input reads as it did. -/
def muldivBackSpec : ChangeSpec := { name := "muldivBack", fn := fun _ => fun
  | [d1, d2, d3, d4] => { results := [.lit (.bool true)], args := [d1, d2, d3, d4] }
  | _ => none }
def muldivBackRow : OpenClaim := { program := "ytfjjipkieecpcaa", sum := "f27b210592edde2046e55ffc5d2b5e630cc92b5b4500979c24e8a8dda40817f0", func := "drawloom/drawloomlaw03.MuldivBack", spec := "muldivBack", unfollowed := true, recurses := true, apart := false }
def MuldivBackSaid : Prop := muldivBackRow.holds Try.pinned (OpenSpec.ofChange muldivBackSpec)

/-- ITS FALSE NEIGHBOUR: 'it returns false'. Refute it at one input. -/
def muldivBackWrong : ChangeSpec := { name := "muldivBack", fn := fun _ => fun
  | [d1, d2, d3, d4] => { results := [.lit (.bool false)], args := [d1, d2, d3, d4] }
  | _ => none }
def MuldivBackWrongFalsely : Prop := muldivBackRow.holds Try.pinned (OpenSpec.ofChange muldivBackWrong)

/-- 'drawloomlaw03.MuldivSigns': WHATEVER THE INPUT: true; the input reads as it did. -/
def muldivSignsSpec : ChangeSpec := { name := "muldivSigns", fn := fun _ => fun
  | [d1, d2] => { results := [.lit (.bool true)], args := [d1, d2] }
  | _ => none }
def muldivSignsRow : OpenClaim := { program := "ytfjjipkieecpcaa", sum := "f27b210592edde2046e55ffc5d2b5e630cc92b5b4500979c24e8a8dda40817f0", func := "drawloom/drawloomlaw03.MuldivSigns", spec := "muldivSigns", unfollowed := true, recurses := true, apart := false }
def MuldivSignsSaid : Prop := muldivSignsRow.holds Try.pinned (OpenSpec.ofChange muldivSignsSpec)

/-- ITS FALSE NEIGHBOUR: 'it returns false'. Refute it at one input. -/
def muldivSignsWrong : ChangeSpec := { name := "muldivSigns", fn := fun _ => fun
  | [d1, d2] => { results := [.lit (.bool false)], args := [d1, d2] }
  | _ => none }
def MuldivSignsWrongFalsely : Prop := muldivSignsRow.holds Try.pinned (OpenSpec.ofChange muldivSignsWrong)

/-- 'drawloomlaw03.MuldivDigits': WHATEVER THE INPUT: true; the input reads as it did. -/
def muldivDigitsSpec : ChangeSpec := { name := "muldivDigits", fn := fun _ => fun
  | [d1, d2, d3] => { results := [.lit (.bool true)], args := [d1, d2, d3] }
  | _ => none }
def muldivDigitsRow : OpenClaim := { program := "ytfjjipkieecpcaa", sum := "f27b210592edde2046e55ffc5d2b5e630cc92b5b4500979c24e8a8dda40817f0", func := "drawloom/drawloomlaw03.MuldivDigits", spec := "muldivDigits", unfollowed := true, recurses := true, apart := false }
def MuldivDigitsSaid : Prop := muldivDigitsRow.holds Try.pinned (OpenSpec.ofChange muldivDigitsSpec)

/-- ITS FALSE NEIGHBOUR: 'it returns false'. Refute it at one input. -/
def muldivDigitsWrong : ChangeSpec := { name := "muldivDigits", fn := fun _ => fun
  | [d1, d2, d3] => { results := [.lit (.bool false)], args := [d1, d2, d3] }
  | _ => none }
def MuldivDigitsWrongFalsely : Prop := muldivDigitsRow.holds Try.pinned (OpenSpec.ofChange muldivDigitsWrong)

/- THE SECOND FORM. 'bulk': how many values and letters a reading holds, each counted each time it is reached (what is shared counts as often as it is met; a slice's spare places count too). A statement '..UptoSaid' is the law's where the arguments, and the package variables that the reading takes, are together of bulk at most 1048576: NARROWER than '..Said'. Prove '..Said' where nothing that the law and all that it calls make is longer than what came in: it says more and counts as full. Else prove '..UptoSaid'. A law counts once. -/
mutual
def uptoBulk {H : Type} : DataW H → Nat
  | .lit (.string bytes) => bytes.length + 1
  | .lit _ => 1
  | .nil => 1
  | .ptr d => uptoBulk d + 1
  | .slice elems spare => uptoBulkAll elems + uptoBulkAll spare + 1
  | .agg parts => uptoBulkAll parts + 1
  | .iface _ d => uptoBulk d + 1
  | .map entries => uptoBulkEntries entries + 1
  | .held _ => 1
def uptoBulkAll {H : Type} : List (DataW H) → Nat
  | [] => 0
  | d :: r => uptoBulk d + uptoBulkAll r
def uptoBulkEntries {H : Type} : List (Lit × DataW H) → Nat
  | [] => 0
  | x :: r => uptoBulkEntry x + uptoBulkEntries r
def uptoBulkEntry {H : Type} : Lit × DataW H → Nat
  | (.string bytes, d) => bytes.length + uptoBulk d + 1
  | (_, d) => uptoBulk d + 1
 end
def uptoSmall : (H : Type) → List (DataW H) → Bool := fun _ ds => decide (uptoBulkAll ds ≤ 1048576)
def OpenSpec.upto (s : _root_.Go.ChangeSpec) : _root_.Go.OpenSpec := { _root_.Go.OpenSpec.ofChange s with cond := some uptoSmall }

/-- 'drawloomlaw03.MuldivTurns', WHERE WHAT IT READS IS OF BULK AT MOST 1048576: true; the input reads as it did. -/
def muldivTurnsUptoRow : OpenClaim := { program := "ytfjjipkieecpcaa", sum := "f27b210592edde2046e55ffc5d2b5e630cc92b5b4500979c24e8a8dda40817f0", func := "drawloom/drawloomlaw03.MuldivTurns", spec := "muldivTurns", unfollowed := true, recurses := true, apart := false, narrowed := true }
def MuldivTurnsUptoSaid : Prop := muldivTurnsUptoRow.holds Try.pinned (OpenSpec.upto muldivTurnsSpec)

/-- 'drawloomlaw03.MuldivNames', WHERE WHAT IT READS IS OF BULK AT MOST 1048576: true; the input reads as it did. -/
def muldivNamesUptoRow : OpenClaim := { program := "ytfjjipkieecpcaa", sum := "f27b210592edde2046e55ffc5d2b5e630cc92b5b4500979c24e8a8dda40817f0", func := "drawloom/drawloomlaw03.MuldivNames", spec := "muldivNames", unfollowed := true, recurses := true, apart := false, narrowed := true }
def MuldivNamesUptoSaid : Prop := muldivNamesUptoRow.holds Try.pinned (OpenSpec.upto muldivNamesSpec)

/-- 'drawloomlaw03.MuldivMuls', WHERE WHAT IT READS IS OF BULK AT MOST 1048576: true; the input reads as it did. -/
def muldivMulsUptoRow : OpenClaim := { program := "ytfjjipkieecpcaa", sum := "f27b210592edde2046e55ffc5d2b5e630cc92b5b4500979c24e8a8dda40817f0", func := "drawloom/drawloomlaw03.MuldivMuls", spec := "muldivMuls", unfollowed := true, recurses := true, apart := false, narrowed := true }
def MuldivMulsUptoSaid : Prop := muldivMulsUptoRow.holds Try.pinned (OpenSpec.upto muldivMulsSpec)

/-- 'drawloomlaw03.MuldivDivs', WHERE WHAT IT READS IS OF BULK AT MOST 1048576: true; the input reads as it did. -/
def muldivDivsUptoRow : OpenClaim := { program := "ytfjjipkieecpcaa", sum := "f27b210592edde2046e55ffc5d2b5e630cc92b5b4500979c24e8a8dda40817f0", func := "drawloom/drawloomlaw03.MuldivDivs", spec := "muldivDivs", unfollowed := true, recurses := true, apart := false, narrowed := true }
def MuldivDivsUptoSaid : Prop := muldivDivsUptoRow.holds Try.pinned (OpenSpec.upto muldivDivsSpec)

/-- 'drawloomlaw03.MuldivAdjusts', WHERE WHAT IT READS IS OF BULK AT MOST 1048576: true; the input reads as it did. -/
def muldivAdjustsUptoRow : OpenClaim := { program := "ytfjjipkieecpcaa", sum := "f27b210592edde2046e55ffc5d2b5e630cc92b5b4500979c24e8a8dda40817f0", func := "drawloom/drawloomlaw03.MuldivAdjusts", spec := "muldivAdjusts", unfollowed := true, recurses := true, apart := false, narrowed := true }
def MuldivAdjustsUptoSaid : Prop := muldivAdjustsUptoRow.holds Try.pinned (OpenSpec.upto muldivAdjustsSpec)

/-- 'drawloomlaw03.MuldivBack', WHERE WHAT IT READS IS OF BULK AT MOST 1048576: true; the input reads as it did. -/
def muldivBackUptoRow : OpenClaim := { program := "ytfjjipkieecpcaa", sum := "f27b210592edde2046e55ffc5d2b5e630cc92b5b4500979c24e8a8dda40817f0", func := "drawloom/drawloomlaw03.MuldivBack", spec := "muldivBack", unfollowed := true, recurses := true, apart := false, narrowed := true }
def MuldivBackUptoSaid : Prop := muldivBackUptoRow.holds Try.pinned (OpenSpec.upto muldivBackSpec)

/-- 'drawloomlaw03.MuldivSigns', WHERE WHAT IT READS IS OF BULK AT MOST 1048576: true; the input reads as it did. -/
def muldivSignsUptoRow : OpenClaim := { program := "ytfjjipkieecpcaa", sum := "f27b210592edde2046e55ffc5d2b5e630cc92b5b4500979c24e8a8dda40817f0", func := "drawloom/drawloomlaw03.MuldivSigns", spec := "muldivSigns", unfollowed := true, recurses := true, apart := false, narrowed := true }
def MuldivSignsUptoSaid : Prop := muldivSignsUptoRow.holds Try.pinned (OpenSpec.upto muldivSignsSpec)

/-- 'drawloomlaw03.MuldivDigits', WHERE WHAT IT READS IS OF BULK AT MOST 1048576: true; the input reads as it did. -/
def muldivDigitsUptoRow : OpenClaim := { program := "ytfjjipkieecpcaa", sum := "f27b210592edde2046e55ffc5d2b5e630cc92b5b4500979c24e8a8dda40817f0", func := "drawloom/drawloomlaw03.MuldivDigits", spec := "muldivDigits", unfollowed := true, recurses := true, apart := false, narrowed := true }
def MuldivDigitsUptoSaid : Prop := muldivDigitsUptoRow.holds Try.pinned (OpenSpec.upto muldivDigitsSpec)

end Rows
end Go.Proofs.Ytfjjipkieecpcaa
