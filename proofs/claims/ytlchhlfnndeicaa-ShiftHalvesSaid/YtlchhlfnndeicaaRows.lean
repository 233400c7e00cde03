/-
  No cell of these rows narrows 'for every input' (looked for: loops, veiled, ifaces, maps, wideKeys, modest, calm, conditions, laid).
  DERIVED. THE GIVEN ROWS OF THIS SEAT. 7 by the template 'for every input the law returns true; each argument reads behind the call as it read before'; 0 by the template 'total and deterministic' (their statements: YtlchhlfnndeicaaTotals.lean).
  GIVEN WITH THE SEED: the statements are not yours to turn. If you find one false, say at which input.
  Laid BY PROGRAM, IN A SANDBOX (cutbox-rows.mjs): the forced cells as the released guide's own fill.sh prints them over the translation f04a3f44d4f7f965… (all of the seat's roots in one cut). By AI agents, Wed Nov 11 2026. No macro, syntax, notation, axiom, sorry.
-/
import Derived.Test.YtlchhlfnndeicaaChecked
import GoSem.Claim
import GoSem.ClaimJoined
import GoSem.ClaimMapViews
import Derived.JoinedTies
import Derived.KernelRfl
namespace Go.Proofs.Ytlchhlfnndeicaa
/- THE CELL 'sum', in the pinned program and in every row, IS THE sha256 OF THE DUMP (.gsa) THAT YtlchhlfnndeicaaProg.lean LOADS. Nothing in Lean hashes anything: it is a label: what it is worth is what the hold of that sum in a sandbox is worth. -/
noncomputable def Try.pinned : Pinned := { name := "ytlchhlfnndeicaa", sum := "f04a3f44d4f7f965b1e53c323366fdc37e17a7808a16c974b46f6629562d97f3", checked := Try.checked }
namespace Rows
def none {H : Type} : Left H := { results := [], args := [] }

/-- 'drawloomlaw02.ShiftNames': WHATEVER THE INPUT: true; the input reads as it did. -/
def shiftNamesSpec : ChangeSpec := { name := "shiftNames", fn := fun _ => fun
  | [] => { results := [.lit (.bool true)], args := [] }
  | _ => none }
def shiftNamesRow : OpenClaim := { program := "ytlchhlfnndeicaa", sum := "f04a3f44d4f7f965b1e53c323366fdc37e17a7808a16c974b46f6629562d97f3", func := "drawloom/drawloomlaw02.ShiftNames", spec := "shiftNames", unfollowed := true, recurses := true, apart := false }
def ShiftNamesSaid : Prop := shiftNamesRow.holds Try.pinned (OpenSpec.ofChange shiftNamesSpec)

/-- ITS FALSE NEIGHBOUR: 'it returns false'. Refute it at one input. -/
def shiftNamesWrong : ChangeSpec := { name := "shiftNames", fn := fun _ => fun
  | [] => { results := [.lit (.bool false)], args := [] }
  | _ => none }
def ShiftNamesWrongFalsely : Prop := shiftNamesRow.holds Try.pinned (OpenSpec.ofChange shiftNamesWrong)

/-- 'drawloomlaw02.ShiftDoes': WHATEVER THE INPUT: true; the input reads as it did. -/
def shiftDoesSpec : ChangeSpec := { name := "shiftDoes", fn := fun _ => fun
  | [d1, d2, d3, d4, d5] => { results := [.lit (.bool true)], args := [d1, d2, d3, d4, d5] }
  | _ => none }
def shiftDoesRow : OpenClaim := { program := "ytlchhlfnndeicaa", sum := "f04a3f44d4f7f965b1e53c323366fdc37e17a7808a16c974b46f6629562d97f3", func := "drawloom/drawloomlaw02.ShiftDoes", spec := "shiftDoes", unfollowed := true, recurses := true, apart := false }
def ShiftDoesSaid : Prop := shiftDoesRow.holds Try.pinned (OpenSpec.ofChange shiftDoesSpec)

/-- ITS FALSE NEIGHBOUR: 'it returns false'. Refute it at one input. -/
def shiftDoesWrong : ChangeSpec := { name := "shiftDoes", fn := fun _ => fun
  | [d1, d2, d3, d4, d5] => { results := [.lit (.bool false)], args := [d1, d2, d3, d4, d5] }
  | _ => none }
def ShiftDoesWrongFalsely : Prop := shiftDoesRow.holds Try.pinned (OpenSpec.ofChange shiftDoesWrong)

/-- 'drawloomlaw02.ShiftDoubles': WHATEVER THE INPUT: true; the input reads as it did. -/
def shiftDoublesSpec : ChangeSpec := { name := "shiftDoubles", fn := fun _ => fun
  | [d1, d2, d3, d4, d5, d6] => { results := [.lit (.bool true)], args := [d1, d2, d3, d4, d5, d6] }
  | _ => none }
def shiftDoublesRow : OpenClaim := { program := "ytlchhlfnndeicaa", sum := "f04a3f44d4f7f965b1e53c323366fdc37e17a7808a16c974b46f6629562d97f3", func := "drawloom/drawloomlaw02.ShiftDoubles", spec := "shiftDoubles", unfollowed := true, recurses := true, apart := false }
def ShiftDoublesSaid : Prop := shiftDoublesRow.holds Try.pinned (OpenSpec.ofChange shiftDoublesSpec)

/-- ITS FALSE NEIGHBOUR: 'it returns false'. Refute it at one input. -/
def shiftDoublesWrong : ChangeSpec := { name := "shiftDoubles", fn := fun _ => fun
  | [d1, d2, d3, d4, d5, d6] => { results := [.lit (.bool false)], args := [d1, d2, d3, d4, d5, d6] }
  | _ => none }
def ShiftDoublesWrongFalsely : Prop := shiftDoublesRow.holds Try.pinned (OpenSpec.ofChange shiftDoublesWrong)

/-- 'drawloomlaw02.ShiftBack': WHATEVER THE INPUT: true; the input reads as it did. -/
def shiftBackSpec : ChangeSpec := { name := "shiftBack", fn := fun _ => fun
  | [d1, d2, d3, d4] => { results := [.lit (.bool true)], args := [d1, d2, d3, d4] }
  | _ => none }
def shiftBackRow : OpenClaim := { program := "ytlchhlfnndeicaa", sum := "f04a3f44d4f7f965b1e53c323366fdc37e17a7808a16c974b46f6629562d97f3", func := "drawloom/drawloomlaw02.ShiftBack", spec := "shiftBack", unfollowed := true, recurses := true, apart := false }
def ShiftBackSaid : Prop := shiftBackRow.holds Try.pinned (OpenSpec.ofChange shiftBackSpec)

/-- ITS FALSE NEIGHBOUR: 'it returns false'. Refute it at one input. -/
def shiftBackWrong : ChangeSpec := { name := "shiftBack", fn := fun _ => fun
  | [d1, d2, d3, d4] => { results := [.lit (.bool false)], args := [d1, d2, d3, d4] }
  | _ => none }
def ShiftBackWrongFalsely : Prop := shiftBackRow.holds Try.pinned (OpenSpec.ofChange shiftBackWrong)

/-- 'drawloomlaw02.ShiftSums': WHATEVER THE INPUT: true; the input reads as it did. -/
def shiftSumsSpec : ChangeSpec := { name := "shiftSums", fn := fun _ => fun
  | [d1, d2, d3, d4, d5, d6] => { results := [.lit (.bool true)], args := [d1, d2, d3, d4, d5, d6] }
  | _ => none }
def shiftSumsRow : OpenClaim := { program := "ytlchhlfnndeicaa", sum := "f04a3f44d4f7f965b1e53c323366fdc37e17a7808a16c974b46f6629562d97f3", func := "drawloom/drawloomlaw02.ShiftSums", spec := "shiftSums", unfollowed := true, recurses := true, apart := false }
def ShiftSumsSaid : Prop := shiftSumsRow.holds Try.pinned (OpenSpec.ofChange shiftSumsSpec)

/-- ITS FALSE NEIGHBOUR: 'it returns false'. Refute it at one input. -/
def shiftSumsWrong : ChangeSpec := { name := "shiftSums", fn := fun _ => fun
  | [d1, d2, d3, d4, d5, d6] => { results := [.lit (.bool false)], args := [d1, d2, d3, d4, d5, d6] }
  | _ => none }
def ShiftSumsWrongFalsely : Prop := shiftSumsRow.holds Try.pinned (OpenSpec.ofChange shiftSumsWrong)

/-- 'drawloomlaw02.ShiftHalves': WHATEVER THE INPUT: true; the input reads as it did. -/
def shiftHalvesSpec : ChangeSpec := { name := "shiftHalves", fn := fun _ => fun
  | [d1, d2, d3, d4, d5] => { results := [.lit (.bool true)], args := [d1, d2, d3, d4, d5] }
  | _ => none }
def shiftHalvesRow : OpenClaim := { program := "ytlchhlfnndeicaa", sum := "f04a3f44d4f7f965b1e53c323366fdc37e17a7808a16c974b46f6629562d97f3", func := "drawloom/drawloomlaw02.ShiftHalves", spec := "shiftHalves", unfollowed := true, recurses := true, apart := false }
def ShiftHalvesSaid : Prop := shiftHalvesRow.holds Try.pinned (OpenSpec.ofChange shiftHalvesSpec)

/-- ITS FALSE NEIGHBOUR: 'it returns false'. Refute it at one input. -/
def shiftHalvesWrong : ChangeSpec := { name := "shiftHalves", fn := fun _ => fun
  | [d1, d2, d3, d4, d5] => { results := [.lit (.bool false)], args := [d1, d2, d3, d4, d5] }
  | _ => none }
def ShiftHalvesWrongFalsely : Prop := shiftHalvesRow.holds Try.pinned (OpenSpec.ofChange shiftHalvesWrong)

/-- 'drawloomlaw02.ShiftTurns': WHATEVER THE INPUT: true; the input reads as it did. -/
def shiftTurnsSpec : ChangeSpec := { name := "shiftTurns", fn := fun _ => fun
  | [d1, d2, d3, d4] => { results := [.lit (.bool true)], args := [d1, d2, d3, d4] }
  | _ => none }
def shiftTurnsRow : OpenClaim := { program := "ytlchhlfnndeicaa", sum := "f04a3f44d4f7f965b1e53c323366fdc37e17a7808a16c974b46f6629562d97f3", func := "drawloom/drawloomlaw02.ShiftTurns", spec := "shiftTurns", unfollowed := true, recurses := true, apart := false }
def ShiftTurnsSaid : Prop := shiftTurnsRow.holds Try.pinned (OpenSpec.ofChange shiftTurnsSpec)

/-- ITS FALSE NEIGHBOUR: 'it returns false'. Refute it at one input. -/
def shiftTurnsWrong : ChangeSpec := { name := "shiftTurns", fn := fun _ => fun
  | [d1, d2, d3, d4] => { results := [.lit (.bool false)], args := [d1, d2, d3, d4] }
  | _ => none }
def ShiftTurnsWrongFalsely : Prop := shiftTurnsRow.holds Try.pinned (OpenSpec.ofChange shiftTurnsWrong)

/- THE SECOND FORM. 'bulk': how many values and letters a reading holds, each counted each time it is reached (what is shared counts as often as it is met; a slice's spare places count too). A statement '..UptoSaid' is the law's where the arguments, and the package variables that the reading takes, are together of bulk at most 1048576: NARROWER than '..Said'. Prove '..Said' where nothing that the law and all that it calls make is longer than what came in: it says more and counts as full. Else prove '..UptoSaid'. A law counts once. -/
mutual
def uptoBulk {H : Type} : DataW H → Nat
  | .lit (.string bytes) => bytes.length + 1
  | .lit _ => 1
  | .nil => 1
  | .ptr d => uptoBulk d + 1
  | .slice elems spare => uptoBulkAll elems + uptoBulkAll spare + 1
  | .agg parts => uptoBulkAll parts + 1
  | .iface _ d => uptoBulk d + 1
  | .map entries => uptoBulkEntries entries + 1
  | .held _ => 1
def uptoBulkAll {H : Type} : List (DataW H) → Nat
  | [] => 0
  | d :: r => uptoBulk d + uptoBulkAll r
def uptoBulkEntries {H : Type} : List (Lit × DataW H) → Nat
  | [] => 0
  | x :: r => uptoBulkEntry x + uptoBulkEntries r
def uptoBulkEntry {H : Type} : Lit × DataW H → Nat
  | (.string bytes, d) => bytes.length + uptoBulk d + 1
  | (_, d) => uptoBulk d + 1
 end
def uptoSmall : (H : Type) → List (DataW H) → Bool := fun _ ds => decide (uptoBulkAll ds ≤ 1048576)
def OpenSpec.upto (s : _root_.Go.ChangeSpec) : _root_.Go.OpenSpec := { _root_.Go.OpenSpec.ofChange s with cond := some uptoSmall }

/-- 'drawloomlaw02.ShiftNames', WHERE WHAT IT READS IS OF BULK AT MOST 1048576: true; the input reads as it did. -/
def shiftNamesUptoRow : OpenClaim := { program := "ytlchhlfnndeicaa", sum := "f04a3f44d4f7f965b1e53c323366fdc37e17a7808a16c974b46f6629562d97f3", func := "drawloom/drawloomlaw02.ShiftNames", spec := "shiftNames", unfollowed := true, recurses := true, apart := false, narrowed := true }
def ShiftNamesUptoSaid : Prop := shiftNamesUptoRow.holds Try.pinned (OpenSpec.upto shiftNamesSpec)

/-- 'drawloomlaw02.ShiftDoes', WHERE WHAT IT READS IS OF BULK AT MOST 1048576: true; the input reads as it did. -/
def shiftDoesUptoRow : OpenClaim := { program := "ytlchhlfnndeicaa", sum := "f04a3f44d4f7f965b1e53c323366fdc37e17a7808a16c974b46f6629562d97f3", func := "drawloom/drawloomlaw02.ShiftDoes", spec := "shiftDoes", unfollowed := true, recurses := true, apart := false, narrowed := true }
def ShiftDoesUptoSaid : Prop := shiftDoesUptoRow.holds Try.pinned (OpenSpec.upto shiftDoesSpec)

/-- 'drawloomlaw02.ShiftDoubles', WHERE WHAT IT READS IS OF BULK AT MOST 1048576: true; the input reads as it did. -/
def shiftDoublesUptoRow : OpenClaim := { program := "ytlchhlfnndeicaa", sum := "f04a3f44d4f7f965b1e53c323366fdc37e17a7808a16c974b46f6629562d97f3", func := "drawloom/drawloomlaw02.ShiftDoubles", spec := "shiftDoubles", unfollowed := true, recurses := true, apart := false, narrowed := true }
def ShiftDoublesUptoSaid : Prop := shiftDoublesUptoRow.holds Try.pinned (OpenSpec.upto shiftDoublesSpec)

/-- 'drawloomlaw02.ShiftBack', WHERE WHAT IT READS IS OF BULK AT MOST 1048576: true; the input reads as it did. -/
def shiftBackUptoRow : OpenClaim := { program := "ytlchhlfnndeicaa", sum := "f04a3f44d4f7f965b1e53c323366fdc37e17a7808a16c974b46f6629562d97f3", func := "drawloom/drawloomlaw02.ShiftBack", spec := "shiftBack", unfollowed := true, recurses := true, apart := false, narrowed := true }
def ShiftBackUptoSaid : Prop := shiftBackUptoRow.holds Try.pinned (OpenSpec.upto shiftBackSpec)

/-- 'drawloomlaw02.ShiftSums', WHERE WHAT IT READS IS OF BULK AT MOST 1048576: true; the input reads as it did. -/
def shiftSumsUptoRow : OpenClaim := { program := "ytlchhlfnndeicaa", sum := "f04a3f44d4f7f965b1e53c323366fdc37e17a7808a16c974b46f6629562d97f3", func := "drawloom/drawloomlaw02.ShiftSums", spec := "shiftSums", unfollowed := true, recurses := true, apart := false, narrowed := true }
def ShiftSumsUptoSaid : Prop := shiftSumsUptoRow.holds Try.pinned (OpenSpec.upto shiftSumsSpec)

/-- 'drawloomlaw02.ShiftHalves', WHERE WHAT IT READS IS OF BULK AT MOST 1048576: true; the input reads as it did. -/
def shiftHalvesUptoRow : OpenClaim := { program := "ytlchhlfnndeicaa", sum := "f04a3f44d4f7f965b1e53c323366fdc37e17a7808a16c974b46f6629562d97f3", func := "drawloom/drawloomlaw02.ShiftHalves", spec := "shiftHalves", unfollowed := true, recurses := true, apart := false, narrowed := true }
def ShiftHalvesUptoSaid : Prop := shiftHalvesUptoRow.holds Try.pinned (OpenSpec.upto shiftHalvesSpec)

/-- 'drawloomlaw02.ShiftTurns', WHERE WHAT IT READS IS OF BULK AT MOST 1048576: true; the input reads as it did. -/
def shiftTurnsUptoRow : OpenClaim := { program := "ytlchhlfnndeicaa", sum := "f04a3f44d4f7f965b1e53c323366fdc37e17a7808a16c974b46f6629562d97f3", func := "drawloom/drawloomlaw02.ShiftTurns", spec := "shiftTurns", unfollowed := true, recurses := true, apart := false, narrowed := true }
def ShiftTurnsUptoSaid : Prop := shiftTurnsUptoRow.holds Try.pinned (OpenSpec.upto shiftTurnsSpec)

end Rows
end Go.Proofs.Ytlchhlfnndeicaa
