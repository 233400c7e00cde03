/-
  No cell of these rows narrows 'for every input' (looked for: loops, veiled, ifaces, maps, wideKeys, modest, calm, conditions, laid).
  DERIVED. THE GIVEN ROWS OF THIS SEAT. 7 by the template 'for every input the law returns true; each argument reads behind the call as it read before'; 0 by the template 'total and deterministic' (their statements: YthejbdjmhallhaaTotals.lean).
  GIVEN WITH THE SEED: the statements are not yours to turn. If you find one false, say at which input.
  Laid BY PROGRAM, IN A SANDBOX (cutbox-rows.mjs): the forced cells as the released guide's own fill.sh prints them over the translation 964c5a004a91af6d… (all of the seat's roots in one cut). By AI agents, Wed Nov 11 2026. No macro, syntax, notation, axiom, sorry.
-/
import Derived.Test.YthejbdjmhallhaaChecked
import GoSem.Claim
import GoSem.ClaimJoined
import GoSem.ClaimMapViews
import Derived.JoinedTies
import Derived.KernelRfl
namespace Go.Proofs.Ythejbdjmhallhaa
/- THE CELL 'sum', in the pinned program and in every row, IS THE sha256 OF THE DUMP (.gsa) THAT YthejbdjmhallhaaProg.lean LOADS. Nothing in Lean hashes anything: it is a label: what it is worth is what the hold of that sum in a sandbox is worth. -/
noncomputable def Try.pinned : Pinned := { name := "ythejbdjmhallhaa", sum := "964c5a004a91af6d843b827f54ed198ecf0939b8ffc8e5213d91ba02161dc09c", checked := Try.checked }
namespace Rows
def none {H : Type} : Left H := { results := [], args := [] }

/-- 'drawloomlaw01.AluNames': WHATEVER THE INPUT: true; the input reads as it did. -/
def aluNamesSpec : ChangeSpec := { name := "aluNames", fn := fun _ => fun
  | [] => { results := [.lit (.bool true)], args := [] }
  | _ => none }
def aluNamesRow : OpenClaim := { program := "ythejbdjmhallhaa", sum := "964c5a004a91af6d843b827f54ed198ecf0939b8ffc8e5213d91ba02161dc09c", func := "drawloom/drawloomlaw01.AluNames", spec := "aluNames", unfollowed := true, recurses := true, apart := false }
def AluNamesSaid : Prop := aluNamesRow.holds Try.pinned (OpenSpec.ofChange aluNamesSpec)

/-- ITS FALSE NEIGHBOUR: 'it returns false'. Refute it at one input. -/
def aluNamesWrong : ChangeSpec := { name := "aluNames", fn := fun _ => fun
  | [] => { results := [.lit (.bool false)], args := [] }
  | _ => none }
def AluNamesWrongFalsely : Prop := aluNamesRow.holds Try.pinned (OpenSpec.ofChange aluNamesWrong)

/-- 'drawloomlaw01.AluDoes': WHATEVER THE INPUT: true; the input reads as it did. -/
def aluDoesSpec : ChangeSpec := { name := "aluDoes", fn := fun _ => fun
  | [d1, d2, d3, d4, d5] => { results := [.lit (.bool true)], args := [d1, d2, d3, d4, d5] }
  | _ => none }
def aluDoesRow : OpenClaim := { program := "ythejbdjmhallhaa", sum := "964c5a004a91af6d843b827f54ed198ecf0939b8ffc8e5213d91ba02161dc09c", func := "drawloom/drawloomlaw01.AluDoes", spec := "aluDoes", unfollowed := true, recurses := true, apart := false }
def AluDoesSaid : Prop := aluDoesRow.holds Try.pinned (OpenSpec.ofChange aluDoesSpec)

/-- ITS FALSE NEIGHBOUR: 'it returns false'. Refute it at one input. -/
def aluDoesWrong : ChangeSpec := { name := "aluDoes", fn := fun _ => fun
  | [d1, d2, d3, d4, d5] => { results := [.lit (.bool false)], args := [d1, d2, d3, d4, d5] }
  | _ => none }
def AluDoesWrongFalsely : Prop := aluDoesRow.holds Try.pinned (OpenSpec.ofChange aluDoesWrong)

/-- 'drawloomlaw01.AluFlags': WHATEVER THE INPUT: true; the input reads as it did. -/
def aluFlagsSpec : ChangeSpec := { name := "aluFlags", fn := fun _ => fun
  | [d1, d2, d3] => { results := [.lit (.bool true)], args := [d1, d2, d3] }
  | _ => none }
def aluFlagsRow : OpenClaim := { program := "ythejbdjmhallhaa", sum := "964c5a004a91af6d843b827f54ed198ecf0939b8ffc8e5213d91ba02161dc09c", func := "drawloom/drawloomlaw01.AluFlags", spec := "aluFlags", unfollowed := true, recurses := true, apart := false }
def AluFlagsSaid : Prop := aluFlagsRow.holds Try.pinned (OpenSpec.ofChange aluFlagsSpec)

/-- ITS FALSE NEIGHBOUR: 'it returns false'. Refute it at one input. -/
def aluFlagsWrong : ChangeSpec := { name := "aluFlags", fn := fun _ => fun
  | [d1, d2, d3] => { results := [.lit (.bool false)], args := [d1, d2, d3] }
  | _ => none }
def AluFlagsWrongFalsely : Prop := aluFlagsRow.holds Try.pinned (OpenSpec.ofChange aluFlagsWrong)

/-- 'drawloomlaw01.AluBack': WHATEVER THE INPUT: true; the input reads as it did. -/
def aluBackSpec : ChangeSpec := { name := "aluBack", fn := fun _ => fun
  | [d1, d2, d3, d4] => { results := [.lit (.bool true)], args := [d1, d2, d3, d4] }
  | _ => none }
def aluBackRow : OpenClaim := { program := "ythejbdjmhallhaa", sum := "964c5a004a91af6d843b827f54ed198ecf0939b8ffc8e5213d91ba02161dc09c", func := "drawloom/drawloomlaw01.AluBack", spec := "aluBack", unfollowed := true, recurses := true, apart := false }
def AluBackSaid : Prop := aluBackRow.holds Try.pinned (OpenSpec.ofChange aluBackSpec)

/-- ITS FALSE NEIGHBOUR: 'it returns false'. Refute it at one input. -/
def aluBackWrong : ChangeSpec := { name := "aluBack", fn := fun _ => fun
  | [d1, d2, d3, d4] => { results := [.lit (.bool false)], args := [d1, d2, d3, d4] }
  | _ => none }
def AluBackWrongFalsely : Prop := aluBackRow.holds Try.pinned (OpenSpec.ofChange aluBackWrong)

/-- 'drawloomlaw01.AluOrders': WHATEVER THE INPUT: true; the input reads as it did. -/
def aluOrdersSpec : ChangeSpec := { name := "aluOrders", fn := fun _ => fun
  | [d1, d2, d3, d4] => { results := [.lit (.bool true)], args := [d1, d2, d3, d4] }
  | _ => none }
def aluOrdersRow : OpenClaim := { program := "ythejbdjmhallhaa", sum := "964c5a004a91af6d843b827f54ed198ecf0939b8ffc8e5213d91ba02161dc09c", func := "drawloom/drawloomlaw01.AluOrders", spec := "aluOrders", unfollowed := true, recurses := true, apart := false }
def AluOrdersSaid : Prop := aluOrdersRow.holds Try.pinned (OpenSpec.ofChange aluOrdersSpec)

/-- ITS FALSE NEIGHBOUR: 'it returns false'. Refute it at one input. -/
def aluOrdersWrong : ChangeSpec := { name := "aluOrders", fn := fun _ => fun
  | [d1, d2, d3, d4] => { results := [.lit (.bool false)], args := [d1, d2, d3, d4] }
  | _ => none }
def AluOrdersWrongFalsely : Prop := aluOrdersRow.holds Try.pinned (OpenSpec.ofChange aluOrdersWrong)

/-- 'drawloomlaw01.AluParts': WHATEVER THE INPUT: true; the input reads as it did. -/
def aluPartsSpec : ChangeSpec := { name := "aluParts", fn := fun _ => fun
  | [d1, d2, d3] => { results := [.lit (.bool true)], args := [d1, d2, d3] }
  | _ => none }
def aluPartsRow : OpenClaim := { program := "ythejbdjmhallhaa", sum := "964c5a004a91af6d843b827f54ed198ecf0939b8ffc8e5213d91ba02161dc09c", func := "drawloom/drawloomlaw01.AluParts", spec := "aluParts", unfollowed := true, recurses := true, apart := false }
def AluPartsSaid : Prop := aluPartsRow.holds Try.pinned (OpenSpec.ofChange aluPartsSpec)

/-- ITS FALSE NEIGHBOUR: 'it returns false'. Refute it at one input. -/
def aluPartsWrong : ChangeSpec := { name := "aluParts", fn := fun _ => fun
  | [d1, d2, d3] => { results := [.lit (.bool false)], args := [d1, d2, d3] }
  | _ => none }
def AluPartsWrongFalsely : Prop := aluPartsRow.holds Try.pinned (OpenSpec.ofChange aluPartsWrong)

/-- 'drawloomlaw01.AluLogic': WHATEVER THE INPUT: true; the input reads as it did. -/
def aluLogicSpec : ChangeSpec := { name := "aluLogic", fn := fun _ => fun
  | [d1, d2, d3, d4] => { results := [.lit (.bool true)], args := [d1, d2, d3, d4] }
  | _ => none }
def aluLogicRow : OpenClaim := { program := "ythejbdjmhallhaa", sum := "964c5a004a91af6d843b827f54ed198ecf0939b8ffc8e5213d91ba02161dc09c", func := "drawloom/drawloomlaw01.AluLogic", spec := "aluLogic", unfollowed := true, recurses := true, apart := false }
def AluLogicSaid : Prop := aluLogicRow.holds Try.pinned (OpenSpec.ofChange aluLogicSpec)

/-- ITS FALSE NEIGHBOUR: 'it returns false'. Refute it at one input. -/
def aluLogicWrong : ChangeSpec := { name := "aluLogic", fn := fun _ => fun
  | [d1, d2, d3, d4] => { results := [.lit (.bool false)], args := [d1, d2, d3, d4] }
  | _ => none }
def AluLogicWrongFalsely : Prop := aluLogicRow.holds Try.pinned (OpenSpec.ofChange aluLogicWrong)

/- THE SECOND FORM. 'bulk': how many values and letters a reading holds, each counted each time it is reached (what is shared counts as often as it is met; a slice's spare places count too). A statement '..UptoSaid' is the law's where the arguments, and the package variables that the reading takes, are together of bulk at most 1048576: NARROWER than '..Said'. Prove '..Said' where nothing that the law and all that it calls make is longer than what came in: it says more and counts as full. Else prove '..UptoSaid'. A law counts once. -/
mutual
def uptoBulk {H : Type} : DataW H → Nat
  | .lit (.string bytes) => bytes.length + 1
  | .lit _ => 1
  | .nil => 1
  | .ptr d => uptoBulk d + 1
  | .slice elems spare => uptoBulkAll elems + uptoBulkAll spare + 1
  | .agg parts => uptoBulkAll parts + 1
  | .iface _ d => uptoBulk d + 1
  | .map entries => uptoBulkEntries entries + 1
  | .held _ => 1
def uptoBulkAll {H : Type} : List (DataW H) → Nat
  | [] => 0
  | d :: r => uptoBulk d + uptoBulkAll r
def uptoBulkEntries {H : Type} : List (Lit × DataW H) → Nat
  | [] => 0
  | x :: r => uptoBulkEntry x + uptoBulkEntries r
def uptoBulkEntry {H : Type} : Lit × DataW H → Nat
  | (.string bytes, d) => bytes.length + uptoBulk d + 1
  | (_, d) => uptoBulk d + 1
 end
def uptoSmall : (H : Type) → List (DataW H) → Bool := fun _ ds => decide (uptoBulkAll ds ≤ 1048576)
def OpenSpec.upto (s : _root_.Go.ChangeSpec) : _root_.Go.OpenSpec := { _root_.Go.OpenSpec.ofChange s with cond := some uptoSmall }

/-- 'drawloomlaw01.AluNames', WHERE WHAT IT READS IS OF BULK AT MOST 1048576: true; the input reads as it did. -/
def aluNamesUptoRow : OpenClaim := { program := "ythejbdjmhallhaa", sum := "964c5a004a91af6d843b827f54ed198ecf0939b8ffc8e5213d91ba02161dc09c", func := "drawloom/drawloomlaw01.AluNames", spec := "aluNames", unfollowed := true, recurses := true, apart := false, narrowed := true }
def AluNamesUptoSaid : Prop := aluNamesUptoRow.holds Try.pinned (OpenSpec.upto aluNamesSpec)

/-- 'drawloomlaw01.AluDoes', WHERE WHAT IT READS IS OF BULK AT MOST 1048576: true; the input reads as it did. -/
def aluDoesUptoRow : OpenClaim := { program := "ythejbdjmhallhaa", sum := "964c5a004a91af6d843b827f54ed198ecf0939b8ffc8e5213d91ba02161dc09c", func := "drawloom/drawloomlaw01.AluDoes", spec := "aluDoes", unfollowed := true, recurses := true, apart := false, narrowed := true }
def AluDoesUptoSaid : Prop := aluDoesUptoRow.holds Try.pinned (OpenSpec.upto aluDoesSpec)

/-- 'drawloomlaw01.AluFlags', WHERE WHAT IT READS IS OF BULK AT MOST 1048576: true; the input reads as it did. -/
def aluFlagsUptoRow : OpenClaim := { program := "ythejbdjmhallhaa", sum := "964c5a004a91af6d843b827f54ed198ecf0939b8ffc8e5213d91ba02161dc09c", func := "drawloom/drawloomlaw01.AluFlags", spec := "aluFlags", unfollowed := true, recurses := true, apart := false, narrowed := true }
def AluFlagsUptoSaid : Prop := aluFlagsUptoRow.holds Try.pinned (OpenSpec.upto aluFlagsSpec)

/-- 'drawloomlaw01.AluBack', WHERE WHAT IT READS IS OF BULK AT MOST 1048576: true; the input reads as it did. -/
def aluBackUptoRow : OpenClaim := { program := "ythejbdjmhallhaa", sum := "964c5a004a91af6d843b827f54ed198ecf0939b8ffc8e5213d91ba02161dc09c", func := "drawloom/drawloomlaw01.AluBack", spec := "aluBack", unfollowed := true, recurses := true, apart := false, narrowed := true }
def AluBackUptoSaid : Prop := aluBackUptoRow.holds Try.pinned (OpenSpec.upto aluBackSpec)

/-- 'drawloomlaw01.AluOrders', WHERE WHAT IT READS IS OF BULK AT MOST 1048576: true; the input reads as it did. -/
def aluOrdersUptoRow : OpenClaim := { program := "ythejbdjmhallhaa", sum := "964c5a004a91af6d843b827f54ed198ecf0939b8ffc8e5213d91ba02161dc09c", func := "drawloom/drawloomlaw01.AluOrders", spec := "aluOrders", unfollowed := true, recurses := true, apart := false, narrowed := true }
def AluOrdersUptoSaid : Prop := aluOrdersUptoRow.holds Try.pinned (OpenSpec.upto aluOrdersSpec)

/-- 'drawloomlaw01.AluParts', WHERE WHAT IT READS IS OF BULK AT MOST 1048576: true; the input reads as it did. -/
def aluPartsUptoRow : OpenClaim := { program := "ythejbdjmhallhaa", sum := "964c5a004a91af6d843b827f54ed198ecf0939b8ffc8e5213d91ba02161dc09c", func := "drawloom/drawloomlaw01.AluParts", spec := "aluParts", unfollowed := true, recurses := true, apart := false, narrowed := true }
def AluPartsUptoSaid : Prop := aluPartsUptoRow.holds Try.pinned (OpenSpec.upto aluPartsSpec)

/-- 'drawloomlaw01.AluLogic', WHERE WHAT IT READS IS OF BULK AT MOST 1048576: true; the input reads as it did. -/
def aluLogicUptoRow : OpenClaim := { program := "ythejbdjmhallhaa", sum := "964c5a004a91af6d843b827f54ed198ecf0939b8ffc8e5213d91ba02161dc09c", func := "drawloom/drawloomlaw01.AluLogic", spec := "aluLogic", unfollowed := true, recurses := true, apart := false, narrowed := true }
def AluLogicUptoSaid : Prop := aluLogicUptoRow.holds Try.pinned (OpenSpec.upto aluLogicSpec)

end Rows
end Go.Proofs.Ythejbdjmhallhaa
