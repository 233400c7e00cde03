/-
  No cell of these rows narrows 'for every input' (looked for: loops, veiled, ifaces, maps, wideKeys, modest, calm, conditions, laid).
  DERIVED. THE GIVEN ROWS OF THIS SEAT. 7 by the template 'for every input the law returns true; each argument reads behind the call as it read before'; 0 by the template 'total and deterministic' (their statements: YtdnnlfpahnbfmaaTotals.lean).
  GIVEN WITH THE SEED: the statements are not yours to turn. If you find one false, say at which input.
  Laid BY PROGRAM, IN A SANDBOX (cutbox-rows.mjs): the forced cells as the released guide's own fill.sh prints them over the translation 7bd0fd34a5839c13… (all of the seat's roots in one cut). By AI agents, Wed Nov 11 2026. No macro, syntax, notation, axiom, sorry.
-/
import Derived.Test.YtdnnlfpahnbfmaaChecked
import GoSem.Claim
import GoSem.ClaimJoined
import GoSem.ClaimMapViews
import Derived.JoinedTies
import Derived.KernelRfl
namespace Go.Proofs.Ytdnnlfpahnbfmaa
/- THE CELL 'sum', in the pinned program and in every row, IS THE sha256 OF THE DUMP (.gsa) THAT YtdnnlfpahnbfmaaProg.lean LOADS. Nothing in Lean hashes anything: it is a label: what it is worth is what the hold of that sum in a sandbox is worth. -/
noncomputable def Try.pinned : Pinned := { name := "ytdnnlfpahnbfmaa", sum := "7bd0fd34a5839c1375f27d04082f8be46c3059459af3109df285359e7f54ea1e", checked := Try.checked }
namespace Rows
def none {H : Type} : Left H := { results := [], args := [] }

/-- 'drawloomlaw04.BitopNames': WHATEVER THE INPUT: true; the input reads as it did. -/
def bitopNamesSpec : ChangeSpec := { name := "bitopNames", fn := fun _ => fun
  | [] => { results := [.lit (.bool true)], args := [] }
  | _ => none }
def bitopNamesRow : OpenClaim := { program := "ytdnnlfpahnbfmaa", sum := "7bd0fd34a5839c1375f27d04082f8be46c3059459af3109df285359e7f54ea1e", func := "drawloom/drawloomlaw04.BitopNames", spec := "bitopNames", unfollowed := true, recurses := true, apart := false }
def BitopNamesSaid : Prop := bitopNamesRow.holds Try.pinned (OpenSpec.ofChange bitopNamesSpec)

/-- ITS FALSE NEIGHBOUR: 'it returns false'. Refute it at one input. -/
def bitopNamesWrong : ChangeSpec := { name := "bitopNames", fn := fun _ => fun
  | [] => { results := [.lit (.bool false)], args := [] }
  | _ => none }
def BitopNamesWrongFalsely : Prop := bitopNamesRow.holds Try.pinned (OpenSpec.ofChange bitopNamesWrong)

/-- 'drawloomlaw04.BitopConds': WHATEVER THE INPUT: true; the input reads as it did. -/
def bitopCondsSpec : ChangeSpec := { name := "bitopConds", fn := fun _ => fun
  | [d1, d2] => { results := [.lit (.bool true)], args := [d1, d2] }
  | _ => none }
def bitopCondsRow : OpenClaim := { program := "ytdnnlfpahnbfmaa", sum := "7bd0fd34a5839c1375f27d04082f8be46c3059459af3109df285359e7f54ea1e", func := "drawloom/drawloomlaw04.BitopConds", spec := "bitopConds", unfollowed := true, recurses := true, apart := false }
def BitopCondsSaid : Prop := bitopCondsRow.holds Try.pinned (OpenSpec.ofChange bitopCondsSpec)

/-- ITS FALSE NEIGHBOUR: 'it returns false'. Refute it at one input. -/
def bitopCondsWrong : ChangeSpec := { name := "bitopConds", fn := fun _ => fun
  | [d1, d2] => { results := [.lit (.bool false)], args := [d1, d2] }
  | _ => none }
def BitopCondsWrongFalsely : Prop := bitopCondsRow.holds Try.pinned (OpenSpec.ofChange bitopCondsWrong)

/-- 'drawloomlaw04.BitopBits': WHATEVER THE INPUT: true; the input reads as it did. -/
def bitopBitsSpec : ChangeSpec := { name := "bitopBits", fn := fun _ => fun
  | [d1, d2, d3, d4, d5] => { results := [.lit (.bool true)], args := [d1, d2, d3, d4, d5] }
  | _ => none }
def bitopBitsRow : OpenClaim := { program := "ytdnnlfpahnbfmaa", sum := "7bd0fd34a5839c1375f27d04082f8be46c3059459af3109df285359e7f54ea1e", func := "drawloom/drawloomlaw04.BitopBits", spec := "bitopBits", unfollowed := true, recurses := true, apart := false }
def BitopBitsSaid : Prop := bitopBitsRow.holds Try.pinned (OpenSpec.ofChange bitopBitsSpec)

/-- ITS FALSE NEIGHBOUR: 'it returns false'. Refute it at one input. -/
def bitopBitsWrong : ChangeSpec := { name := "bitopBits", fn := fun _ => fun
  | [d1, d2, d3, d4, d5] => { results := [.lit (.bool false)], args := [d1, d2, d3, d4, d5] }
  | _ => none }
def BitopBitsWrongFalsely : Prop := bitopBitsRow.holds Try.pinned (OpenSpec.ofChange bitopBitsWrong)

/-- 'drawloomlaw04.BitopScans': WHATEVER THE INPUT: true; the input reads as it did. -/
def bitopScansSpec : ChangeSpec := { name := "bitopScans", fn := fun _ => fun
  | [d1, d2, d3, d4, d5] => { results := [.lit (.bool true)], args := [d1, d2, d3, d4, d5] }
  | _ => none }
def bitopScansRow : OpenClaim := { program := "ytdnnlfpahnbfmaa", sum := "7bd0fd34a5839c1375f27d04082f8be46c3059459af3109df285359e7f54ea1e", func := "drawloom/drawloomlaw04.BitopScans", spec := "bitopScans", unfollowed := true, recurses := true, apart := false }
def BitopScansSaid : Prop := bitopScansRow.holds Try.pinned (OpenSpec.ofChange bitopScansSpec)

/-- ITS FALSE NEIGHBOUR: 'it returns false'. Refute it at one input. -/
def bitopScansWrong : ChangeSpec := { name := "bitopScans", fn := fun _ => fun
  | [d1, d2, d3, d4, d5] => { results := [.lit (.bool false)], args := [d1, d2, d3, d4, d5] }
  | _ => none }
def BitopScansWrongFalsely : Prop := bitopScansRow.holds Try.pinned (OpenSpec.ofChange bitopScansWrong)

/-- 'drawloomlaw04.BitopBack': WHATEVER THE INPUT: true; the input reads as it did. -/
def bitopBackSpec : ChangeSpec := { name := "bitopBack", fn := fun _ => fun
  | [d1, d2, d3, d4] => { results := [.lit (.bool true)], args := [d1, d2, d3, d4] }
  | _ => none }
def bitopBackRow : OpenClaim := { program := "ytdnnlfpahnbfmaa", sum := "7bd0fd34a5839c1375f27d04082f8be46c3059459af3109df285359e7f54ea1e", func := "drawloom/drawloomlaw04.BitopBack", spec := "bitopBack", unfollowed := true, recurses := true, apart := false }
def BitopBackSaid : Prop := bitopBackRow.holds Try.pinned (OpenSpec.ofChange bitopBackSpec)

/-- ITS FALSE NEIGHBOUR: 'it returns false'. Refute it at one input. -/
def bitopBackWrong : ChangeSpec := { name := "bitopBack", fn := fun _ => fun
  | [d1, d2, d3, d4] => { results := [.lit (.bool false)], args := [d1, d2, d3, d4] }
  | _ => none }
def BitopBackWrongFalsely : Prop := bitopBackRow.holds Try.pinned (OpenSpec.ofChange bitopBackWrong)

/-- 'drawloomlaw04.BitopWidths': WHATEVER THE INPUT: true; the input reads as it did. -/
def bitopWidthsSpec : ChangeSpec := { name := "bitopWidths", fn := fun _ => fun
  | [d1, d2] => { results := [.lit (.bool true)], args := [d1, d2] }
  | _ => none }
def bitopWidthsRow : OpenClaim := { program := "ytdnnlfpahnbfmaa", sum := "7bd0fd34a5839c1375f27d04082f8be46c3059459af3109df285359e7f54ea1e", func := "drawloom/drawloomlaw04.BitopWidths", spec := "bitopWidths", unfollowed := true, recurses := true, apart := false }
def BitopWidthsSaid : Prop := bitopWidthsRow.holds Try.pinned (OpenSpec.ofChange bitopWidthsSpec)

/-- ITS FALSE NEIGHBOUR: 'it returns false'. Refute it at one input. -/
def bitopWidthsWrong : ChangeSpec := { name := "bitopWidths", fn := fun _ => fun
  | [d1, d2] => { results := [.lit (.bool false)], args := [d1, d2] }
  | _ => none }
def BitopWidthsWrongFalsely : Prop := bitopWidthsRow.holds Try.pinned (OpenSpec.ofChange bitopWidthsWrong)

/-- 'drawloomlaw04.BitopOrders': WHATEVER THE INPUT: true; the input reads as it did. -/
def bitopOrdersSpec : ChangeSpec := { name := "bitopOrders", fn := fun _ => fun
  | [d1, d2] => { results := [.lit (.bool true)], args := [d1, d2] }
  | _ => none }
def bitopOrdersRow : OpenClaim := { program := "ytdnnlfpahnbfmaa", sum := "7bd0fd34a5839c1375f27d04082f8be46c3059459af3109df285359e7f54ea1e", func := "drawloom/drawloomlaw04.BitopOrders", spec := "bitopOrders", unfollowed := true, recurses := true, apart := false }
def BitopOrdersSaid : Prop := bitopOrdersRow.holds Try.pinned (OpenSpec.ofChange bitopOrdersSpec)

/-- ITS FALSE NEIGHBOUR: 'it returns false'. Refute it at one input. -/
def bitopOrdersWrong : ChangeSpec := { name := "bitopOrders", fn := fun _ => fun
  | [d1, d2] => { results := [.lit (.bool false)], args := [d1, d2] }
  | _ => none }
def BitopOrdersWrongFalsely : Prop := bitopOrdersRow.holds Try.pinned (OpenSpec.ofChange bitopOrdersWrong)

/- THE SECOND FORM. 'bulk': how many values and letters a reading holds, each counted each time it is reached (what is shared counts as often as it is met; a slice's spare places count too). A statement '..UptoSaid' is the law's where the arguments, and the package variables that the reading takes, are together of bulk at most 1048576: NARROWER than '..Said'. Prove '..Said' where nothing that the law and all that it calls make is longer than what came in: it says more and counts as full. Else prove '..UptoSaid'. A law counts once. -/
mutual
def uptoBulk {H : Type} : DataW H → Nat
  | .lit (.string bytes) => bytes.length + 1
  | .lit _ => 1
  | .nil => 1
  | .ptr d => uptoBulk d + 1
  | .slice elems spare => uptoBulkAll elems + uptoBulkAll spare + 1
  | .agg parts => uptoBulkAll parts + 1
  | .iface _ d => uptoBulk d + 1
  | .map entries => uptoBulkEntries entries + 1
  | .held _ => 1
def uptoBulkAll {H : Type} : List (DataW H) → Nat
  | [] => 0
  | d :: r => uptoBulk d + uptoBulkAll r
def uptoBulkEntries {H : Type} : List (Lit × DataW H) → Nat
  | [] => 0
  | x :: r => uptoBulkEntry x + uptoBulkEntries r
def uptoBulkEntry {H : Type} : Lit × DataW H → Nat
  | (.string bytes, d) => bytes.length + uptoBulk d + 1
  | (_, d) => uptoBulk d + 1
 end
def uptoSmall : (H : Type) → List (DataW H) → Bool := fun _ ds => decide (uptoBulkAll ds ≤ 1048576)
def OpenSpec.upto (s : _root_.Go.ChangeSpec) : _root_.Go.OpenSpec := { _root_.Go.OpenSpec.ofChange s with cond := some uptoSmall }

/-- 'drawloomlaw04.BitopNames', WHERE WHAT IT READS IS OF BULK AT MOST 1048576: true; the input reads as it did. -/
def bitopNamesUptoRow : OpenClaim := { program := "ytdnnlfpahnbfmaa", sum := "7bd0fd34a5839c1375f27d04082f8be46c3059459af3109df285359e7f54ea1e", func := "drawloom/drawloomlaw04.BitopNames", spec := "bitopNames", unfollowed := true, recurses := true, apart := false, narrowed := true }
def BitopNamesUptoSaid : Prop := bitopNamesUptoRow.holds Try.pinned (OpenSpec.upto bitopNamesSpec)

/-- 'drawloomlaw04.BitopConds', WHERE WHAT IT READS IS OF BULK AT MOST 1048576: true; the input reads as it did. -/
def bitopCondsUptoRow : OpenClaim := { program := "ytdnnlfpahnbfmaa", sum := "7bd0fd34a5839c1375f27d04082f8be46c3059459af3109df285359e7f54ea1e", func := "drawloom/drawloomlaw04.BitopConds", spec := "bitopConds", unfollowed := true, recurses := true, apart := false, narrowed := true }
def BitopCondsUptoSaid : Prop := bitopCondsUptoRow.holds Try.pinned (OpenSpec.upto bitopCondsSpec)

/-- 'drawloomlaw04.BitopBits', WHERE WHAT IT READS IS OF BULK AT MOST 1048576: true; the input reads as it did. -/
def bitopBitsUptoRow : OpenClaim := { program := "ytdnnlfpahnbfmaa", sum := "7bd0fd34a5839c1375f27d04082f8be46c3059459af3109df285359e7f54ea1e", func := "drawloom/drawloomlaw04.BitopBits", spec := "bitopBits", unfollowed := true, recurses := true, apart := false, narrowed := true }
def BitopBitsUptoSaid : Prop := bitopBitsUptoRow.holds Try.pinned (OpenSpec.upto bitopBitsSpec)

/-- 'drawloomlaw04.BitopScans', WHERE WHAT IT READS IS OF BULK AT MOST 1048576: true; the input reads as it did. -/
def bitopScansUptoRow : OpenClaim := { program := "ytdnnlfpahnbfmaa", sum := "7bd0fd34a5839c1375f27d04082f8be46c3059459af3109df285359e7f54ea1e", func := "drawloom/drawloomlaw04.BitopScans", spec := "bitopScans", unfollowed := true, recurses := true, apart := false, narrowed := true }
def BitopScansUptoSaid : Prop := bitopScansUptoRow.holds Try.pinned (OpenSpec.upto bitopScansSpec)

/-- 'drawloomlaw04.BitopBack', WHERE WHAT IT READS IS OF BULK AT MOST 1048576: true; the input reads as it did. -/
def bitopBackUptoRow : OpenClaim := { program := "ytdnnlfpahnbfmaa", sum := "7bd0fd34a5839c1375f27d04082f8be46c3059459af3109df285359e7f54ea1e", func := "drawloom/drawloomlaw04.BitopBack", spec := "bitopBack", unfollowed := true, recurses := true, apart := false, narrowed := true }
def BitopBackUptoSaid : Prop := bitopBackUptoRow.holds Try.pinned (OpenSpec.upto bitopBackSpec)

/-- 'drawloomlaw04.BitopWidths', WHERE WHAT IT READS IS OF BULK AT MOST 1048576: true; the input reads as it did. -/
def bitopWidthsUptoRow : OpenClaim := { program := "ytdnnlfpahnbfmaa", sum := "7bd0fd34a5839c1375f27d04082f8be46c3059459af3109df285359e7f54ea1e", func := "drawloom/drawloomlaw04.BitopWidths", spec := "bitopWidths", unfollowed := true, recurses := true, apart := false, narrowed := true }
def BitopWidthsUptoSaid : Prop := bitopWidthsUptoRow.holds Try.pinned (OpenSpec.upto bitopWidthsSpec)

/-- 'drawloomlaw04.BitopOrders', WHERE WHAT IT READS IS OF BULK AT MOST 1048576: true; the input reads as it did. -/
def bitopOrdersUptoRow : OpenClaim := { program := "ytdnnlfpahnbfmaa", sum := "7bd0fd34a5839c1375f27d04082f8be46c3059459af3109df285359e7f54ea1e", func := "drawloom/drawloomlaw04.BitopOrders", spec := "bitopOrders", unfollowed := true, recurses := true, apart := false, narrowed := true }
def BitopOrdersUptoSaid : Prop := bitopOrdersUptoRow.holds Try.pinned (OpenSpec.upto bitopOrdersSpec)

end Rows
end Go.Proofs.Ytdnnlfpahnbfmaa
