/-
  No cell of these rows narrows 'for every input' (looked for: loops, veiled, ifaces, maps, wideKeys, modest, calm, conditions, laid).
  DERIVED. THE GIVEN ROWS OF THIS SEAT. 6 by the template 'for every input the law returns true; each argument reads behind the call as it read before'; 0 by the template 'total and deterministic' (their statements: YtepgponpnijonaaTotals.lean).
  GIVEN WITH THE SEED: the statements are not yours to turn. If you find one false, say at which input.
  Laid BY PROGRAM, IN A SANDBOX (cutbox-rows.mjs): the forced cells as the released guide's own fill.sh prints them over the translation a807796756eef91f… (all of the seat's roots in one cut). By AI agents, Wed Nov 11 2026. No macro, syntax, notation, axiom, sorry.
-/
import Derived.Test.YtepgponpnijonaaChecked
import GoSem.Claim
import GoSem.ClaimJoined
import GoSem.ClaimMapViews
import Derived.JoinedTies
import Derived.KernelRfl
namespace Go.Proofs.Ytepgponpnijonaa
/- THE CELL 'sum', in the pinned program and in every row, IS THE sha256 OF THE DUMP (.gsa) THAT YtepgponpnijonaaProg.lean LOADS. Nothing in Lean hashes anything: it is a label: what it is worth is what the hold of that sum in a sandbox is worth. -/
noncomputable def Try.pinned : Pinned := { name := "ytepgponpnijonaa", sum := "a807796756eef91ffb06cfd08c20802b54246d92b73fb5d5bf5876655ce83954", checked := Try.checked }
namespace Rows
def none {H : Type} : Left H := { results := [], args := [] }

/-- 'lombardlaw18.BatchPuts': WHATEVER THE INPUT: true; the input reads as it did. -/
def batchPutsSpec : ChangeSpec := { name := "batchPuts", fn := fun _ => fun
  | [d1, d2] => { results := [.lit (.bool true)], args := [d1, d2] }
  | _ => none }
def batchPutsRow : OpenClaim := { program := "ytepgponpnijonaa", sum := "a807796756eef91ffb06cfd08c20802b54246d92b73fb5d5bf5876655ce83954", func := "lombard/lombardlaw18.BatchPuts", spec := "batchPuts", unfollowed := true, recurses := true, apart := false }
def BatchPutsSaid : Prop := batchPutsRow.holds Try.pinned (OpenSpec.ofChange batchPutsSpec)

/-- ITS FALSE NEIGHBOUR: 'it returns false'. Refute it at one input. -/
def batchPutsWrong : ChangeSpec := { name := "batchPuts", fn := fun _ => fun
  | [d1, d2] => { results := [.lit (.bool false)], args := [d1, d2] }
  | _ => none }
def BatchPutsWrongFalsely : Prop := batchPutsRow.holds Try.pinned (OpenSpec.ofChange batchPutsWrong)

/-- 'lombardlaw18.BatchGets': WHATEVER THE INPUT: true; the input reads as it did. -/
def batchGetsSpec : ChangeSpec := { name := "batchGets", fn := fun _ => fun
  | [d] => { results := [.lit (.bool true)], args := [d] }
  | _ => none }
def batchGetsRow : OpenClaim := { program := "ytepgponpnijonaa", sum := "a807796756eef91ffb06cfd08c20802b54246d92b73fb5d5bf5876655ce83954", func := "lombard/lombardlaw18.BatchGets", spec := "batchGets", unfollowed := true, recurses := true, apart := false }
def BatchGetsSaid : Prop := batchGetsRow.holds Try.pinned (OpenSpec.ofChange batchGetsSpec)

/-- ITS FALSE NEIGHBOUR: 'it returns false'. Refute it at one input. -/
def batchGetsWrong : ChangeSpec := { name := "batchGets", fn := fun _ => fun
  | [d] => { results := [.lit (.bool false)], args := [d] }
  | _ => none }
def BatchGetsWrongFalsely : Prop := batchGetsRow.holds Try.pinned (OpenSpec.ofChange batchGetsWrong)

/-- 'lombardlaw18.BatchBack': WHATEVER THE INPUT: true; the input reads as it did. -/
def batchBackSpec : ChangeSpec := { name := "batchBack", fn := fun _ => fun
  | [d1, d2, d3] => { results := [.lit (.bool true)], args := [d1, d2, d3] }
  | _ => none }
def batchBackRow : OpenClaim := { program := "ytepgponpnijonaa", sum := "a807796756eef91ffb06cfd08c20802b54246d92b73fb5d5bf5876655ce83954", func := "lombard/lombardlaw18.BatchBack", spec := "batchBack", unfollowed := true, recurses := true, apart := false }
def BatchBackSaid : Prop := batchBackRow.holds Try.pinned (OpenSpec.ofChange batchBackSpec)

/-- ITS FALSE NEIGHBOUR: 'it returns false'. Refute it at one input. -/
def batchBackWrong : ChangeSpec := { name := "batchBack", fn := fun _ => fun
  | [d1, d2, d3] => { results := [.lit (.bool false)], args := [d1, d2, d3] }
  | _ => none }
def BatchBackWrongFalsely : Prop := batchBackRow.holds Try.pinned (OpenSpec.ofChange batchBackWrong)

/-- 'lombardlaw18.BatchBits': WHATEVER THE INPUT: true; the input reads as it did. -/
def batchBitsSpec : ChangeSpec := { name := "batchBits", fn := fun _ => fun
  | [d1, d2, d3] => { results := [.lit (.bool true)], args := [d1, d2, d3] }
  | _ => none }
def batchBitsRow : OpenClaim := { program := "ytepgponpnijonaa", sum := "a807796756eef91ffb06cfd08c20802b54246d92b73fb5d5bf5876655ce83954", func := "lombard/lombardlaw18.BatchBits", spec := "batchBits", unfollowed := true, recurses := true, apart := false }
def BatchBitsSaid : Prop := batchBitsRow.holds Try.pinned (OpenSpec.ofChange batchBitsSpec)

/-- ITS FALSE NEIGHBOUR: 'it returns false'. Refute it at one input. -/
def batchBitsWrong : ChangeSpec := { name := "batchBits", fn := fun _ => fun
  | [d1, d2, d3] => { results := [.lit (.bool false)], args := [d1, d2, d3] }
  | _ => none }
def BatchBitsWrongFalsely : Prop := batchBitsRow.holds Try.pinned (OpenSpec.ofChange batchBitsWrong)

/-- 'lombardlaw18.BatchSums': WHATEVER THE INPUT: true; the input reads as it did. -/
def batchSumsSpec : ChangeSpec := { name := "batchSums", fn := fun _ => fun
  | [d1, d2] => { results := [.lit (.bool true)], args := [d1, d2] }
  | _ => none }
def batchSumsRow : OpenClaim := { program := "ytepgponpnijonaa", sum := "a807796756eef91ffb06cfd08c20802b54246d92b73fb5d5bf5876655ce83954", func := "lombard/lombardlaw18.BatchSums", spec := "batchSums", unfollowed := true, recurses := true, apart := false }
def BatchSumsSaid : Prop := batchSumsRow.holds Try.pinned (OpenSpec.ofChange batchSumsSpec)

/-- ITS FALSE NEIGHBOUR: 'it returns false'. Refute it at one input. -/
def batchSumsWrong : ChangeSpec := { name := "batchSums", fn := fun _ => fun
  | [d1, d2] => { results := [.lit (.bool false)], args := [d1, d2] }
  | _ => none }
def BatchSumsWrongFalsely : Prop := batchSumsRow.holds Try.pinned (OpenSpec.ofChange batchSumsWrong)

/-- 'lombardlaw18.BatchSizes': WHATEVER THE INPUT: true; the input reads as it did. -/
def batchSizesSpec : ChangeSpec := { name := "batchSizes", fn := fun _ => fun
  | [d1, d2] => { results := [.lit (.bool true)], args := [d1, d2] }
  | _ => none }
def batchSizesRow : OpenClaim := { program := "ytepgponpnijonaa", sum := "a807796756eef91ffb06cfd08c20802b54246d92b73fb5d5bf5876655ce83954", func := "lombard/lombardlaw18.BatchSizes", spec := "batchSizes", unfollowed := true, recurses := true, apart := false }
def BatchSizesSaid : Prop := batchSizesRow.holds Try.pinned (OpenSpec.ofChange batchSizesSpec)

/-- ITS FALSE NEIGHBOUR: 'it returns false'. Refute it at one input. -/
def batchSizesWrong : ChangeSpec := { name := "batchSizes", fn := fun _ => fun
  | [d1, d2] => { results := [.lit (.bool false)], args := [d1, d2] }
  | _ => none }
def BatchSizesWrongFalsely : Prop := batchSizesRow.holds Try.pinned (OpenSpec.ofChange batchSizesWrong)

/- THE SECOND FORM. 'bulk': how many values and letters a reading holds, each counted each time it is reached (what is shared counts as often as it is met; a slice's spare places count too). A statement '..UptoSaid' is the law's where the arguments, and the package variables that the reading takes, are together of bulk at most 1048576: NARROWER than '..Said'. Prove '..Said' where nothing that the law and all that it calls make is longer than what came in: it says more and counts as full. Else prove '..UptoSaid'. A law counts once. -/
mutual
def uptoBulk {H : Type} : DataW H → Nat
  | .lit (.string bytes) => bytes.length + 1
  | .lit _ => 1
  | .nil => 1
  | .ptr d => uptoBulk d + 1
  | .slice elems spare => uptoBulkAll elems + uptoBulkAll spare + 1
  | .agg parts => uptoBulkAll parts + 1
  | .iface _ d => uptoBulk d + 1
  | .map entries => uptoBulkEntries entries + 1
  | .held _ => 1
def uptoBulkAll {H : Type} : List (DataW H) → Nat
  | [] => 0
  | d :: r => uptoBulk d + uptoBulkAll r
def uptoBulkEntries {H : Type} : List (Lit × DataW H) → Nat
  | [] => 0
  | x :: r => uptoBulkEntry x + uptoBulkEntries r
def uptoBulkEntry {H : Type} : Lit × DataW H → Nat
  | (.string bytes, d) => bytes.length + uptoBulk d + 1
  | (_, d) => uptoBulk d + 1
 end
def uptoSmall : (H : Type) → List (DataW H) → Bool := fun _ ds => decide (uptoBulkAll ds ≤ 1048576)
def OpenSpec.upto (s : _root_.Go.ChangeSpec) : _root_.Go.OpenSpec := { _root_.Go.OpenSpec.ofChange s with cond := some uptoSmall }

/-- 'lombardlaw18.BatchPuts', WHERE WHAT IT READS IS OF BULK AT MOST 1048576: true; the input reads as it did. -/
def batchPutsUptoRow : OpenClaim := { program := "ytepgponpnijonaa", sum := "a807796756eef91ffb06cfd08c20802b54246d92b73fb5d5bf5876655ce83954", func := "lombard/lombardlaw18.BatchPuts", spec := "batchPuts", unfollowed := true, recurses := true, apart := false, narrowed := true }
def BatchPutsUptoSaid : Prop := batchPutsUptoRow.holds Try.pinned (OpenSpec.upto batchPutsSpec)

/-- 'lombardlaw18.BatchGets', WHERE WHAT IT READS IS OF BULK AT MOST 1048576: true; the input reads as it did. -/
def batchGetsUptoRow : OpenClaim := { program := "ytepgponpnijonaa", sum := "a807796756eef91ffb06cfd08c20802b54246d92b73fb5d5bf5876655ce83954", func := "lombard/lombardlaw18.BatchGets", spec := "batchGets", unfollowed := true, recurses := true, apart := false, narrowed := true }
def BatchGetsUptoSaid : Prop := batchGetsUptoRow.holds Try.pinned (OpenSpec.upto batchGetsSpec)

/-- 'lombardlaw18.BatchBack', WHERE WHAT IT READS IS OF BULK AT MOST 1048576: true; the input reads as it did. -/
def batchBackUptoRow : OpenClaim := { program := "ytepgponpnijonaa", sum := "a807796756eef91ffb06cfd08c20802b54246d92b73fb5d5bf5876655ce83954", func := "lombard/lombardlaw18.BatchBack", spec := "batchBack", unfollowed := true, recurses := true, apart := false, narrowed := true }
def BatchBackUptoSaid : Prop := batchBackUptoRow.holds Try.pinned (OpenSpec.upto batchBackSpec)

/-- 'lombardlaw18.BatchBits', WHERE WHAT IT READS IS OF BULK AT MOST 1048576: true; the input reads as it did. -/
def batchBitsUptoRow : OpenClaim := { program := "ytepgponpnijonaa", sum := "a807796756eef91ffb06cfd08c20802b54246d92b73fb5d5bf5876655ce83954", func := "lombard/lombardlaw18.BatchBits", spec := "batchBits", unfollowed := true, recurses := true, apart := false, narrowed := true }
def BatchBitsUptoSaid : Prop := batchBitsUptoRow.holds Try.pinned (OpenSpec.upto batchBitsSpec)

/-- 'lombardlaw18.BatchSums', WHERE WHAT IT READS IS OF BULK AT MOST 1048576: true; the input reads as it did. -/
def batchSumsUptoRow : OpenClaim := { program := "ytepgponpnijonaa", sum := "a807796756eef91ffb06cfd08c20802b54246d92b73fb5d5bf5876655ce83954", func := "lombard/lombardlaw18.BatchSums", spec := "batchSums", unfollowed := true, recurses := true, apart := false, narrowed := true }
def BatchSumsUptoSaid : Prop := batchSumsUptoRow.holds Try.pinned (OpenSpec.upto batchSumsSpec)

/-- 'lombardlaw18.BatchSizes', WHERE WHAT IT READS IS OF BULK AT MOST 1048576: true; the input reads as it did. -/
def batchSizesUptoRow : OpenClaim := { program := "ytepgponpnijonaa", sum := "a807796756eef91ffb06cfd08c20802b54246d92b73fb5d5bf5876655ce83954", func := "lombard/lombardlaw18.BatchSizes", spec := "batchSizes", unfollowed := true, recurses := true, apart := false, narrowed := true }
def BatchSizesUptoSaid : Prop := batchSizesUptoRow.holds Try.pinned (OpenSpec.upto batchSizesSpec)

end Rows
end Go.Proofs.Ytepgponpnijonaa
