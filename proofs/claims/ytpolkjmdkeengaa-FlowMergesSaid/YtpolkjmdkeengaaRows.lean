/-
  No cell of these rows narrows 'for every input' (looked for: loops, veiled, ifaces, maps, wideKeys, modest, calm, conditions, laid).
  DERIVED. THE GIVEN ROWS OF THIS SEAT. 4 by the template 'for every input the law returns true; each argument reads behind the call as it read before'; 0 by the template 'total and deterministic' (their statements: YtpolkjmdkeengaaTotals.lean).
  GIVEN WITH THE SEED: the statements are not yours to turn. If you find one false, say at which input.
  Laid BY PROGRAM, IN A SANDBOX (cutbox-rows.mjs): the forced cells as the released guide's own fill.sh prints them over the translation 5bd4b101e5cc83af… (all of the seat's roots in one cut). By AI agents, Wed Nov 11 2026. No macro, syntax, notation, axiom, sorry.
-/
import Derived.Test.YtpolkjmdkeengaaChecked
import GoSem.Claim
import GoSem.ClaimJoined
import GoSem.ClaimMapViews
import Derived.JoinedTies
import Derived.KernelRfl
namespace Go.Proofs.Ytpolkjmdkeengaa
/- THE CELL 'sum', in the pinned program and in every row, IS THE sha256 OF THE DUMP (.gsa) THAT YtpolkjmdkeengaaProg.lean LOADS. Nothing in Lean hashes anything: it is a label: what it is worth is what the hold of that sum in a sandbox is worth. -/
noncomputable def Try.pinned : Pinned := { name := "ytpolkjmdkeengaa", sum := "5bd4b101e5cc83afa22cfae84ddc4eb25826f362ea18635ca63f7ddb918a0b23", checked := Try.checked }
namespace Rows
def none {H : Type} : Left H := { results := [], args := [] }

/-- 'lombardlaw07.FlowMerges': WHATEVER THE INPUT: true; the input reads as it did. -/
def flowMergesSpec : ChangeSpec := { name := "flowMerges", fn := fun _ => fun
  | [d1, d2, d3] => { results := [.lit (.bool true)], args := [d1, d2, d3] }
  | _ => none }
def flowMergesRow : OpenClaim := { program := "ytpolkjmdkeengaa", sum := "5bd4b101e5cc83afa22cfae84ddc4eb25826f362ea18635ca63f7ddb918a0b23", func := "lombard/lombardlaw07.FlowMerges", spec := "flowMerges", inPlace := ["math/bits.Add64"], unfollowed := true, recurses := true, apart := false }
def FlowMergesSaid : Prop := flowMergesRow.holds Try.pinned (OpenSpec.ofChange flowMergesSpec)

/-- ITS FALSE NEIGHBOUR: 'it returns false'. Refute it at one input. -/
def flowMergesWrong : ChangeSpec := { name := "flowMerges", fn := fun _ => fun
  | [d1, d2, d3] => { results := [.lit (.bool false)], args := [d1, d2, d3] }
  | _ => none }
def FlowMergesWrongFalsely : Prop := flowMergesRow.holds Try.pinned (OpenSpec.ofChange flowMergesWrong)

/-- 'lombardlaw07.FlowBoth': WHATEVER THE INPUT: true; the input reads as it did. -/
def flowBothSpec : ChangeSpec := { name := "flowBoth", fn := fun _ => fun
  | [d1, d2] => { results := [.lit (.bool true)], args := [d1, d2] }
  | _ => none }
def flowBothRow : OpenClaim := { program := "ytpolkjmdkeengaa", sum := "5bd4b101e5cc83afa22cfae84ddc4eb25826f362ea18635ca63f7ddb918a0b23", func := "lombard/lombardlaw07.FlowBoth", spec := "flowBoth", inPlace := ["math/bits.Add64"], unfollowed := true, recurses := true, apart := false }
def FlowBothSaid : Prop := flowBothRow.holds Try.pinned (OpenSpec.ofChange flowBothSpec)

/-- ITS FALSE NEIGHBOUR: 'it returns false'. Refute it at one input. -/
def flowBothWrong : ChangeSpec := { name := "flowBoth", fn := fun _ => fun
  | [d1, d2] => { results := [.lit (.bool false)], args := [d1, d2] }
  | _ => none }
def FlowBothWrongFalsely : Prop := flowBothRow.holds Try.pinned (OpenSpec.ofChange flowBothWrong)

/-- 'lombardlaw07.FlowParts': WHATEVER THE INPUT: true; the input reads as it did. -/
def flowPartsSpec : ChangeSpec := { name := "flowParts", fn := fun _ => fun
  | [d1, d2] => { results := [.lit (.bool true)], args := [d1, d2] }
  | _ => none }
def flowPartsRow : OpenClaim := { program := "ytpolkjmdkeengaa", sum := "5bd4b101e5cc83afa22cfae84ddc4eb25826f362ea18635ca63f7ddb918a0b23", func := "lombard/lombardlaw07.FlowParts", spec := "flowParts", inPlace := ["math/bits.Add64"], unfollowed := true, recurses := true, apart := false }
def FlowPartsSaid : Prop := flowPartsRow.holds Try.pinned (OpenSpec.ofChange flowPartsSpec)

/-- ITS FALSE NEIGHBOUR: 'it returns false'. Refute it at one input. -/
def flowPartsWrong : ChangeSpec := { name := "flowParts", fn := fun _ => fun
  | [d1, d2] => { results := [.lit (.bool false)], args := [d1, d2] }
  | _ => none }
def FlowPartsWrongFalsely : Prop := flowPartsRow.holds Try.pinned (OpenSpec.ofChange flowPartsWrong)

/-- 'lombardlaw07.FlowThree': WHATEVER THE INPUT: true; the input reads as it did. -/
def flowThreeSpec : ChangeSpec := { name := "flowThree", fn := fun _ => fun
  | [d1, d2, d3] => { results := [.lit (.bool true)], args := [d1, d2, d3] }
  | _ => none }
def flowThreeRow : OpenClaim := { program := "ytpolkjmdkeengaa", sum := "5bd4b101e5cc83afa22cfae84ddc4eb25826f362ea18635ca63f7ddb918a0b23", func := "lombard/lombardlaw07.FlowThree", spec := "flowThree", inPlace := ["math/bits.Add64"], unfollowed := true, recurses := true, apart := false }
def FlowThreeSaid : Prop := flowThreeRow.holds Try.pinned (OpenSpec.ofChange flowThreeSpec)

/-- ITS FALSE NEIGHBOUR: 'it returns false'. Refute it at one input. -/
def flowThreeWrong : ChangeSpec := { name := "flowThree", fn := fun _ => fun
  | [d1, d2, d3] => { results := [.lit (.bool false)], args := [d1, d2, d3] }
  | _ => none }
def FlowThreeWrongFalsely : Prop := flowThreeRow.holds Try.pinned (OpenSpec.ofChange flowThreeWrong)

/- THE SECOND FORM. 'bulk': how many values and letters a reading holds, each counted each time it is reached (what is shared counts as often as it is met; a slice's spare places count too). A statement '..UptoSaid' is the law's where the arguments, and the package variables that the reading takes, are together of bulk at most 1048576: NARROWER than '..Said'. Prove '..Said' where nothing that the law and all that it calls make is longer than what came in: it says more and counts as full. Else prove '..UptoSaid'. A law counts once. -/
mutual
def uptoBulk {H : Type} : DataW H → Nat
  | .lit (.string bytes) => bytes.length + 1
  | .lit _ => 1
  | .nil => 1
  | .ptr d => uptoBulk d + 1
  | .slice elems spare => uptoBulkAll elems + uptoBulkAll spare + 1
  | .agg parts => uptoBulkAll parts + 1
  | .iface _ d => uptoBulk d + 1
  | .map entries => uptoBulkEntries entries + 1
  | .held _ => 1
def uptoBulkAll {H : Type} : List (DataW H) → Nat
  | [] => 0
  | d :: r => uptoBulk d + uptoBulkAll r
def uptoBulkEntries {H : Type} : List (Lit × DataW H) → Nat
  | [] => 0
  | x :: r => uptoBulkEntry x + uptoBulkEntries r
def uptoBulkEntry {H : Type} : Lit × DataW H → Nat
  | (.string bytes, d) => bytes.length + uptoBulk d + 1
  | (_, d) => uptoBulk d + 1
 end
def uptoSmall : (H : Type) → List (DataW H) → Bool := fun _ ds => decide (uptoBulkAll ds ≤ 1048576)
def OpenSpec.upto (s : _root_.Go.ChangeSpec) : _root_.Go.OpenSpec := { _root_.Go.OpenSpec.ofChange s with cond := some uptoSmall }

/-- 'lombardlaw07.FlowMerges', WHERE WHAT IT READS IS OF BULK AT MOST 1048576: true; the input reads as it did. -/
def flowMergesUptoRow : OpenClaim := { program := "ytpolkjmdkeengaa", sum := "5bd4b101e5cc83afa22cfae84ddc4eb25826f362ea18635ca63f7ddb918a0b23", func := "lombard/lombardlaw07.FlowMerges", spec := "flowMerges", inPlace := ["math/bits.Add64"], unfollowed := true, recurses := true, apart := false, narrowed := true }
def FlowMergesUptoSaid : Prop := flowMergesUptoRow.holds Try.pinned (OpenSpec.upto flowMergesSpec)

/-- 'lombardlaw07.FlowBoth', WHERE WHAT IT READS IS OF BULK AT MOST 1048576: true; the input reads as it did. -/
def flowBothUptoRow : OpenClaim := { program := "ytpolkjmdkeengaa", sum := "5bd4b101e5cc83afa22cfae84ddc4eb25826f362ea18635ca63f7ddb918a0b23", func := "lombard/lombardlaw07.FlowBoth", spec := "flowBoth", inPlace := ["math/bits.Add64"], unfollowed := true, recurses := true, apart := false, narrowed := true }
def FlowBothUptoSaid : Prop := flowBothUptoRow.holds Try.pinned (OpenSpec.upto flowBothSpec)

/-- 'lombardlaw07.FlowParts', WHERE WHAT IT READS IS OF BULK AT MOST 1048576: true; the input reads as it did. -/
def flowPartsUptoRow : OpenClaim := { program := "ytpolkjmdkeengaa", sum := "5bd4b101e5cc83afa22cfae84ddc4eb25826f362ea18635ca63f7ddb918a0b23", func := "lombard/lombardlaw07.FlowParts", spec := "flowParts", inPlace := ["math/bits.Add64"], unfollowed := true, recurses := true, apart := false, narrowed := true }
def FlowPartsUptoSaid : Prop := flowPartsUptoRow.holds Try.pinned (OpenSpec.upto flowPartsSpec)

/-- 'lombardlaw07.FlowThree', WHERE WHAT IT READS IS OF BULK AT MOST 1048576: true; the input reads as it did. -/
def flowThreeUptoRow : OpenClaim := { program := "ytpolkjmdkeengaa", sum := "5bd4b101e5cc83afa22cfae84ddc4eb25826f362ea18635ca63f7ddb918a0b23", func := "lombard/lombardlaw07.FlowThree", spec := "flowThree", inPlace := ["math/bits.Add64"], unfollowed := true, recurses := true, apart := false, narrowed := true }
def FlowThreeUptoSaid : Prop := flowThreeUptoRow.holds Try.pinned (OpenSpec.upto flowThreeSpec)

end Rows
end Go.Proofs.Ytpolkjmdkeengaa
