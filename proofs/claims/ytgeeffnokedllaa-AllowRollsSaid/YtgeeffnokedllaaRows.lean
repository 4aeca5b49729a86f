/-
  No cell of these rows narrows 'for every input' (looked for: loops, veiled, ifaces, maps, wideKeys, modest, calm, conditions, laid).
  DERIVED. THE GIVEN ROWS OF THIS SEAT. 6 by the template 'for every input the law returns true; each argument reads behind the call as it read before'; 0 by the template 'total and deterministic' (their statements: YtgeeffnokedllaaTotals.lean).
  GIVEN WITH THE SEED: the statements are not yours to turn. If you find one false, say at which input.
  Laid BY PROGRAM, IN A SANDBOX (cutbox-rows.mjs): the forced cells as the released guide's own fill.sh prints them over the translation e9f4c93c04d9166e… (all of the seat's roots in one cut). By AI agents, Wed Nov 11 2026. No macro, syntax, notation, axiom, sorry.
-/
import Derived.Test.YtgeeffnokedllaaChecked
import GoSem.Claim
import GoSem.ClaimJoined
import GoSem.ClaimMapViews
import Derived.JoinedTies
import Derived.KernelRfl
namespace Go.Proofs.Ytgeeffnokedllaa
/- THE CELL 'sum', in the pinned program and in every row, IS THE sha256 OF THE DUMP (.gsa) THAT YtgeeffnokedllaaProg.lean LOADS. Nothing in Lean hashes anything: it is a label: what it is worth is what the hold of that sum in a sandbox is worth. -/
noncomputable def Try.pinned : Pinned := { name := "ytgeeffnokedllaa", sum := "e9f4c93c04d9166e79c3a8395f8b40cbfffa7f529705a8081ca2b5cbc4e6767f", checked := Try.checked }
namespace Rows
def none {H : Type} : Left H := { results := [], args := [] }

/-- 'lombardlaw16.AllowRolls': WHATEVER THE INPUT: true; the input reads as it did. -/
def allowRollsSpec : ChangeSpec := { name := "allowRolls", fn := fun _ => fun
  | [d1, d2] => { results := [.lit (.bool true)], args := [d1, d2] }
  | _ => none }
def allowRollsRow : OpenClaim := { program := "ytgeeffnokedllaa", sum := "e9f4c93c04d9166e79c3a8395f8b40cbfffa7f529705a8081ca2b5cbc4e6767f", func := "lombard/lombardlaw16.AllowRolls", spec := "allowRolls", unfollowed := true, recurses := true, apart := false }
def AllowRollsSaid : Prop := allowRollsRow.holds Try.pinned (OpenSpec.ofChange allowRollsSpec)

/-- ITS FALSE NEIGHBOUR: 'it returns false'. Refute it at one input. -/
def allowRollsWrong : ChangeSpec := { name := "allowRolls", fn := fun _ => fun
  | [d1, d2] => { results := [.lit (.bool false)], args := [d1, d2] }
  | _ => none }
def AllowRollsWrongFalsely : Prop := allowRollsRow.holds Try.pinned (OpenSpec.ofChange allowRollsWrong)

/-- 'lombardlaw16.AllowCloses': WHATEVER THE INPUT: true; the input reads as it did. -/
def allowClosesSpec : ChangeSpec := { name := "allowCloses", fn := fun _ => fun
  | [d] => { results := [.lit (.bool true)], args := [d] }
  | _ => none }
def allowClosesRow : OpenClaim := { program := "ytgeeffnokedllaa", sum := "e9f4c93c04d9166e79c3a8395f8b40cbfffa7f529705a8081ca2b5cbc4e6767f", func := "lombard/lombardlaw16.AllowCloses", spec := "allowCloses", unfollowed := true, recurses := true, apart := false }
def AllowClosesSaid : Prop := allowClosesRow.holds Try.pinned (OpenSpec.ofChange allowClosesSpec)

/-- ITS FALSE NEIGHBOUR: 'it returns false'. Refute it at one input. -/
def allowClosesWrong : ChangeSpec := { name := "allowCloses", fn := fun _ => fun
  | [d] => { results := [.lit (.bool false)], args := [d] }
  | _ => none }
def AllowClosesWrongFalsely : Prop := allowClosesRow.holds Try.pinned (OpenSpec.ofChange allowClosesWrong)

/-- 'lombardlaw16.AllowParts': WHATEVER THE INPUT: true; the input reads as it did. -/
def allowPartsSpec : ChangeSpec := { name := "allowParts", fn := fun _ => fun
  | [d1, d2, d3] => { results := [.lit (.bool true)], args := [d1, d2, d3] }
  | _ => none }
def allowPartsRow : OpenClaim := { program := "ytgeeffnokedllaa", sum := "e9f4c93c04d9166e79c3a8395f8b40cbfffa7f529705a8081ca2b5cbc4e6767f", func := "lombard/lombardlaw16.AllowParts", spec := "allowParts", unfollowed := true, recurses := true, apart := false }
def AllowPartsSaid : Prop := allowPartsRow.holds Try.pinned (OpenSpec.ofChange allowPartsSpec)

/-- ITS FALSE NEIGHBOUR: 'it returns false'. Refute it at one input. -/
def allowPartsWrong : ChangeSpec := { name := "allowParts", fn := fun _ => fun
  | [d1, d2, d3] => { results := [.lit (.bool false)], args := [d1, d2, d3] }
  | _ => none }
def AllowPartsWrongFalsely : Prop := allowPartsRow.holds Try.pinned (OpenSpec.ofChange allowPartsWrong)

/-- 'lombardlaw16.AllowOrders': WHATEVER THE INPUT: true; the input reads as it did. -/
def allowOrdersSpec : ChangeSpec := { name := "allowOrders", fn := fun _ => fun
  | [d1, d2, d3] => { results := [.lit (.bool true)], args := [d1, d2, d3] }
  | _ => none }
def allowOrdersRow : OpenClaim := { program := "ytgeeffnokedllaa", sum := "e9f4c93c04d9166e79c3a8395f8b40cbfffa7f529705a8081ca2b5cbc4e6767f", func := "lombard/lombardlaw16.AllowOrders", spec := "allowOrders", unfollowed := true, recurses := true, apart := false }
def AllowOrdersSaid : Prop := allowOrdersRow.holds Try.pinned (OpenSpec.ofChange allowOrdersSpec)

/-- ITS FALSE NEIGHBOUR: 'it returns false'. Refute it at one input. -/
def allowOrdersWrong : ChangeSpec := { name := "allowOrders", fn := fun _ => fun
  | [d1, d2, d3] => { results := [.lit (.bool false)], args := [d1, d2, d3] }
  | _ => none }
def AllowOrdersWrongFalsely : Prop := allowOrdersRow.holds Try.pinned (OpenSpec.ofChange allowOrdersWrong)

/-- 'lombardlaw16.AllowNets': WHATEVER THE INPUT: true; the input reads as it did. -/
def allowNetsSpec : ChangeSpec := { name := "allowNets", fn := fun _ => fun
  | [d] => { results := [.lit (.bool true)], args := [d] }
  | _ => none }
def allowNetsRow : OpenClaim := { program := "ytgeeffnokedllaa", sum := "e9f4c93c04d9166e79c3a8395f8b40cbfffa7f529705a8081ca2b5cbc4e6767f", func := "lombard/lombardlaw16.AllowNets", spec := "allowNets", inPlace := ["math/bits.Add64"], unfollowed := true, recurses := true, apart := false }
def AllowNetsSaid : Prop := allowNetsRow.holds Try.pinned (OpenSpec.ofChange allowNetsSpec)

/-- ITS FALSE NEIGHBOUR: 'it returns false'. Refute it at one input. -/
def allowNetsWrong : ChangeSpec := { name := "allowNets", fn := fun _ => fun
  | [d] => { results := [.lit (.bool false)], args := [d] }
  | _ => none }
def AllowNetsWrongFalsely : Prop := allowNetsRow.holds Try.pinned (OpenSpec.ofChange allowNetsWrong)

/-- 'lombardlaw16.AllowTies': WHATEVER THE INPUT: true; the input reads as it did. -/
def allowTiesSpec : ChangeSpec := { name := "allowTies", fn := fun _ => fun
  | [d1, d2] => { results := [.lit (.bool true)], args := [d1, d2] }
  | _ => none }
def allowTiesRow : OpenClaim := { program := "ytgeeffnokedllaa", sum := "e9f4c93c04d9166e79c3a8395f8b40cbfffa7f529705a8081ca2b5cbc4e6767f", func := "lombard/lombardlaw16.AllowTies", spec := "allowTies", inPlace := ["math/bits.Add64"], unfollowed := true, recurses := true, apart := false }
def AllowTiesSaid : Prop := allowTiesRow.holds Try.pinned (OpenSpec.ofChange allowTiesSpec)

/-- ITS FALSE NEIGHBOUR: 'it returns false'. Refute it at one input. -/
def allowTiesWrong : ChangeSpec := { name := "allowTies", fn := fun _ => fun
  | [d1, d2] => { results := [.lit (.bool false)], args := [d1, d2] }
  | _ => none }
def AllowTiesWrongFalsely : Prop := allowTiesRow.holds Try.pinned (OpenSpec.ofChange allowTiesWrong)

/- THE SECOND FORM. 'bulk': how many values and letters a reading holds, each counted each time it is reached (what is shared counts as often as it is met; a slice's spare places count too). A statement '..UptoSaid' is the law's where the arguments, and the package variables that the reading takes, are together of bulk at most 1048576: NARROWER than '..Said'. Prove '..Said' where nothing that the law and all that it calls make is longer than what came in: it says more and counts as full. Else prove '..UptoSaid'. A law counts once. -/
mutual
def uptoBulk {H : Type} : DataW H → Nat
  | .lit (.string bytes) => bytes.length + 1
  | .lit _ => 1
  | .nil => 1
  | .ptr d => uptoBulk d + 1
  | .slice elems spare => uptoBulkAll elems + uptoBulkAll spare + 1
  | .agg parts => uptoBulkAll parts + 1
  | .iface _ d => uptoBulk d + 1
  | .map entries => uptoBulkEntries entries + 1
  | .held _ => 1
def uptoBulkAll {H : Type} : List (DataW H) → Nat
  | [] => 0
  | d :: r => uptoBulk d + uptoBulkAll r
def uptoBulkEntries {H : Type} : List (Lit × DataW H) → Nat
  | [] => 0
  | x :: r => uptoBulkEntry x + uptoBulkEntries r
def uptoBulkEntry {H : Type} : Lit × DataW H → Nat
  | (.string bytes, d) => bytes.length + uptoBulk d + 1
  | (_, d) => uptoBulk d + 1
 end
def uptoSmall : (H : Type) → List (DataW H) → Bool := fun _ ds => decide (uptoBulkAll ds ≤ 1048576)
def OpenSpec.upto (s : _root_.Go.ChangeSpec) : _root_.Go.OpenSpec := { _root_.Go.OpenSpec.ofChange s with cond := some uptoSmall }

/-- 'lombardlaw16.AllowRolls', WHERE WHAT IT READS IS OF BULK AT MOST 1048576: true; the input reads as it did. -/
def allowRollsUptoRow : OpenClaim := { program := "ytgeeffnokedllaa", sum := "e9f4c93c04d9166e79c3a8395f8b40cbfffa7f529705a8081ca2b5cbc4e6767f", func := "lombard/lombardlaw16.AllowRolls", spec := "allowRolls", unfollowed := true, recurses := true, apart := false, narrowed := true }
def AllowRollsUptoSaid : Prop := allowRollsUptoRow.holds Try.pinned (OpenSpec.upto allowRollsSpec)

/-- 'lombardlaw16.AllowCloses', WHERE WHAT IT READS IS OF BULK AT MOST 1048576: true; the input reads as it did. -/
def allowClosesUptoRow : OpenClaim := { program := "ytgeeffnokedllaa", sum := "e9f4c93c04d9166e79c3a8395f8b40cbfffa7f529705a8081ca2b5cbc4e6767f", func := "lombard/lombardlaw16.AllowCloses", spec := "allowCloses", unfollowed := true, recurses := true, apart := false, narrowed := true }
def AllowClosesUptoSaid : Prop := allowClosesUptoRow.holds Try.pinned (OpenSpec.upto allowClosesSpec)

/-- 'lombardlaw16.AllowParts', WHERE WHAT IT READS IS OF BULK AT MOST 1048576: true; the input reads as it did. -/
def allowPartsUptoRow : OpenClaim := { program := "ytgeeffnokedllaa", sum := "e9f4c93c04d9166e79c3a8395f8b40cbfffa7f529705a8081ca2b5cbc4e6767f", func := "lombard/lombardlaw16.AllowParts", spec := "allowParts", unfollowed := true, recurses := true, apart := false, narrowed := true }
def AllowPartsUptoSaid : Prop := allowPartsUptoRow.holds Try.pinned (OpenSpec.upto allowPartsSpec)

/-- 'lombardlaw16.AllowOrders', WHERE WHAT IT READS IS OF BULK AT MOST 1048576: true; the input reads as it did. -/
def allowOrdersUptoRow : OpenClaim := { program := "ytgeeffnokedllaa", sum := "e9f4c93c04d9166e79c3a8395f8b40cbfffa7f529705a8081ca2b5cbc4e6767f", func := "lombard/lombardlaw16.AllowOrders", spec := "allowOrders", unfollowed := true, recurses := true, apart := false, narrowed := true }
def AllowOrdersUptoSaid : Prop := allowOrdersUptoRow.holds Try.pinned (OpenSpec.upto allowOrdersSpec)

/-- 'lombardlaw16.AllowNets', WHERE WHAT IT READS IS OF BULK AT MOST 1048576: true; the input reads as it did. -/
def allowNetsUptoRow : OpenClaim := { program := "ytgeeffnokedllaa", sum := "e9f4c93c04d9166e79c3a8395f8b40cbfffa7f529705a8081ca2b5cbc4e6767f", func := "lombard/lombardlaw16.AllowNets", spec := "allowNets", inPlace := ["math/bits.Add64"], unfollowed := true, recurses := true, apart := false, narrowed := true }
def AllowNetsUptoSaid : Prop := allowNetsUptoRow.holds Try.pinned (OpenSpec.upto allowNetsSpec)

/-- 'lombardlaw16.AllowTies', WHERE WHAT IT READS IS OF BULK AT MOST 1048576: true; the input reads as it did. -/
def allowTiesUptoRow : OpenClaim := { program := "ytgeeffnokedllaa", sum := "e9f4c93c04d9166e79c3a8395f8b40cbfffa7f529705a8081ca2b5cbc4e6767f", func := "lombard/lombardlaw16.AllowTies", spec := "allowTies", inPlace := ["math/bits.Add64"], unfollowed := true, recurses := true, apart := false, narrowed := true }
def AllowTiesUptoSaid : Prop := allowTiesUptoRow.holds Try.pinned (OpenSpec.upto allowTiesSpec)

end Rows
end Go.Proofs.Ytgeeffnokedllaa
