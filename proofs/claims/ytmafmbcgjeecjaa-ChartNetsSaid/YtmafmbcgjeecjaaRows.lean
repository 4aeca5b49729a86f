/-
  No cell of these rows narrows 'for every input' (looked for: loops, veiled, ifaces, maps, wideKeys, modest, calm, conditions, laid).
  DERIVED. THE GIVEN ROWS OF THIS SEAT. 5 by the template 'for every input the law returns true; each argument reads behind the call as it read before'; 0 by the template 'total and deterministic' (their statements: YtmafmbcgjeecjaaTotals.lean).
  GIVEN WITH THE SEED: the statements are not yours to turn. If you find one false, say at which input.
  Laid BY PROGRAM, IN A SANDBOX (cutbox-rows.mjs): the forced cells as the released guide's own fill.sh prints them over the translation ac5576af2e1df8a9… (all of the seat's roots in one cut). By AI agents, Wed Nov 11 2026. No macro, syntax, notation, axiom, sorry.
-/
import Derived.Test.YtmafmbcgjeecjaaChecked
import GoSem.Claim
import GoSem.ClaimJoined
import GoSem.ClaimMapViews
import Derived.JoinedTies
import Derived.KernelRfl
namespace Go.Proofs.Ytmafmbcgjeecjaa
/- THE CELL 'sum', in the pinned program and in every row, IS THE sha256 OF THE DUMP (.gsa) THAT YtmafmbcgjeecjaaProg.lean LOADS. Nothing in Lean hashes anything: it is a label: what it is worth is what the hold of that sum in a sandbox is worth. -/
noncomputable def Try.pinned : Pinned := { name := "ytmafmbcgjeecjaa", sum := "ac5576af2e1df8a9b120bcd39ad79c6eed90ccaa4b739480270f8a7455fa22b4", checked := Try.checked }
namespace Rows
def none {H : Type} : Left H := { results := [], args := [] }

/-- 'lombardlaw17.ChartPosts': WHATEVER THE INPUT: true; the input reads as it did. -/
def chartPostsSpec : ChangeSpec := { name := "chartPosts", fn := fun _ => fun
  | [d] => { results := [.lit (.bool true)], args := [d] }
  | _ => none }
def chartPostsRow : OpenClaim := { program := "ytmafmbcgjeecjaa", sum := "ac5576af2e1df8a9b120bcd39ad79c6eed90ccaa4b739480270f8a7455fa22b4", func := "lombard/lombardlaw17.ChartPosts", spec := "chartPosts", unfollowed := true, recurses := true, apart := false }
def ChartPostsSaid : Prop := chartPostsRow.holds Try.pinned (OpenSpec.ofChange chartPostsSpec)

/-- ITS FALSE NEIGHBOUR: 'it returns false'. Refute it at one input. -/
def chartPostsWrong : ChangeSpec := { name := "chartPosts", fn := fun _ => fun
  | [d] => { results := [.lit (.bool false)], args := [d] }
  | _ => none }
def ChartPostsWrongFalsely : Prop := chartPostsRow.holds Try.pinned (OpenSpec.ofChange chartPostsWrong)

/-- 'lombardlaw17.ChartNames': WHATEVER THE INPUT: true; the input reads as it did. -/
def chartNamesSpec : ChangeSpec := { name := "chartNames", fn := fun _ => fun
  | [d1, d2] => { results := [.lit (.bool true)], args := [d1, d2] }
  | _ => none }
def chartNamesRow : OpenClaim := { program := "ytmafmbcgjeecjaa", sum := "ac5576af2e1df8a9b120bcd39ad79c6eed90ccaa4b739480270f8a7455fa22b4", func := "lombard/lombardlaw17.ChartNames", spec := "chartNames", unfollowed := true, recurses := true, apart := false }
def ChartNamesSaid : Prop := chartNamesRow.holds Try.pinned (OpenSpec.ofChange chartNamesSpec)

/-- ITS FALSE NEIGHBOUR: 'it returns false'. Refute it at one input. -/
def chartNamesWrong : ChangeSpec := { name := "chartNames", fn := fun _ => fun
  | [d1, d2] => { results := [.lit (.bool false)], args := [d1, d2] }
  | _ => none }
def ChartNamesWrongFalsely : Prop := chartNamesRow.holds Try.pinned (OpenSpec.ofChange chartNamesWrong)

/-- 'lombardlaw17.ChartNets': WHATEVER THE INPUT: true; the input reads as it did. -/
def chartNetsSpec : ChangeSpec := { name := "chartNets", fn := fun _ => fun
  | [d] => { results := [.lit (.bool true)], args := [d] }
  | _ => none }
def chartNetsRow : OpenClaim := { program := "ytmafmbcgjeecjaa", sum := "ac5576af2e1df8a9b120bcd39ad79c6eed90ccaa4b739480270f8a7455fa22b4", func := "lombard/lombardlaw17.ChartNets", spec := "chartNets", inPlace := ["math/bits.Add64"], unfollowed := true, recurses := true, apart := false }
def ChartNetsSaid : Prop := chartNetsRow.holds Try.pinned (OpenSpec.ofChange chartNetsSpec)

/-- ITS FALSE NEIGHBOUR: 'it returns false'. Refute it at one input. -/
def chartNetsWrong : ChangeSpec := { name := "chartNets", fn := fun _ => fun
  | [d] => { results := [.lit (.bool false)], args := [d] }
  | _ => none }
def ChartNetsWrongFalsely : Prop := chartNetsRow.holds Try.pinned (OpenSpec.ofChange chartNetsWrong)

/-- 'lombardlaw17.ChartTwice': WHATEVER THE INPUT: true; the input reads as it did. -/
def chartTwiceSpec : ChangeSpec := { name := "chartTwice", fn := fun _ => fun
  | [d1, d2] => { results := [.lit (.bool true)], args := [d1, d2] }
  | _ => none }
def chartTwiceRow : OpenClaim := { program := "ytmafmbcgjeecjaa", sum := "ac5576af2e1df8a9b120bcd39ad79c6eed90ccaa4b739480270f8a7455fa22b4", func := "lombard/lombardlaw17.ChartTwice", spec := "chartTwice", inPlace := ["math/bits.Add64"], unfollowed := true, recurses := true, apart := false }
def ChartTwiceSaid : Prop := chartTwiceRow.holds Try.pinned (OpenSpec.ofChange chartTwiceSpec)

/-- ITS FALSE NEIGHBOUR: 'it returns false'. Refute it at one input. -/
def chartTwiceWrong : ChangeSpec := { name := "chartTwice", fn := fun _ => fun
  | [d1, d2] => { results := [.lit (.bool false)], args := [d1, d2] }
  | _ => none }
def ChartTwiceWrongFalsely : Prop := chartTwiceRow.holds Try.pinned (OpenSpec.ofChange chartTwiceWrong)

/-- 'lombardlaw17.ChartSums': WHATEVER THE INPUT: true; the input reads as it did. -/
def chartSumsSpec : ChangeSpec := { name := "chartSums", fn := fun _ => fun
  | [d1, d2] => { results := [.lit (.bool true)], args := [d1, d2] }
  | _ => none }
def chartSumsRow : OpenClaim := { program := "ytmafmbcgjeecjaa", sum := "ac5576af2e1df8a9b120bcd39ad79c6eed90ccaa4b739480270f8a7455fa22b4", func := "lombard/lombardlaw17.ChartSums", spec := "chartSums", inPlace := ["math/bits.Add64"], unfollowed := true, recurses := true, apart := false }
def ChartSumsSaid : Prop := chartSumsRow.holds Try.pinned (OpenSpec.ofChange chartSumsSpec)

/-- ITS FALSE NEIGHBOUR: 'it returns false'. Refute it at one input. -/
def chartSumsWrong : ChangeSpec := { name := "chartSums", fn := fun _ => fun
  | [d1, d2] => { results := [.lit (.bool false)], args := [d1, d2] }
  | _ => none }
def ChartSumsWrongFalsely : Prop := chartSumsRow.holds Try.pinned (OpenSpec.ofChange chartSumsWrong)

/- THE SECOND FORM. 'bulk': how many values and letters a reading holds, each counted each time it is reached (what is shared counts as often as it is met; a slice's spare places count too). A statement '..UptoSaid' is the law's where the arguments, and the package variables that the reading takes, are together of bulk at most 1048576: NARROWER than '..Said'. Prove '..Said' where nothing that the law and all that it calls make is longer than what came in: it says more and counts as full. Else prove '..UptoSaid'. A law counts once. -/
mutual
def uptoBulk {H : Type} : DataW H → Nat
  | .lit (.string bytes) => bytes.length + 1
  | .lit _ => 1
  | .nil => 1
  | .ptr d => uptoBulk d + 1
  | .slice elems spare => uptoBulkAll elems + uptoBulkAll spare + 1
  | .agg parts => uptoBulkAll parts + 1
  | .iface _ d => uptoBulk d + 1
  | .map entries => uptoBulkEntries entries + 1
  | .held _ => 1
def uptoBulkAll {H : Type} : List (DataW H) → Nat
  | [] => 0
  | d :: r => uptoBulk d + uptoBulkAll r
def uptoBulkEntries {H : Type} : List (Lit × DataW H) → Nat
  | [] => 0
  | x :: r => uptoBulkEntry x + uptoBulkEntries r
def uptoBulkEntry {H : Type} : Lit × DataW H → Nat
  | (.string bytes, d) => bytes.length + uptoBulk d + 1
  | (_, d) => uptoBulk d + 1
 end
def uptoSmall : (H : Type) → List (DataW H) → Bool := fun _ ds => decide (uptoBulkAll ds ≤ 1048576)
def OpenSpec.upto (s : _root_.Go.ChangeSpec) : _root_.Go.OpenSpec := { _root_.Go.OpenSpec.ofChange s with cond := some uptoSmall }

/-- 'lombardlaw17.ChartPosts', WHERE WHAT IT READS IS OF BULK AT MOST 1048576: true; the input reads as it did. -/
def chartPostsUptoRow : OpenClaim := { program := "ytmafmbcgjeecjaa", sum := "ac5576af2e1df8a9b120bcd39ad79c6eed90ccaa4b739480270f8a7455fa22b4", func := "lombard/lombardlaw17.ChartPosts", spec := "chartPosts", unfollowed := true, recurses := true, apart := false, narrowed := true }
def ChartPostsUptoSaid : Prop := chartPostsUptoRow.holds Try.pinned (OpenSpec.upto chartPostsSpec)

/-- 'lombardlaw17.ChartNames', WHERE WHAT IT READS IS OF BULK AT MOST 1048576: true; the input reads as it did. -/
def chartNamesUptoRow : OpenClaim := { program := "ytmafmbcgjeecjaa", sum := "ac5576af2e1df8a9b120bcd39ad79c6eed90ccaa4b739480270f8a7455fa22b4", func := "lombard/lombardlaw17.ChartNames", spec := "chartNames", unfollowed := true, recurses := true, apart := false, narrowed := true }
def ChartNamesUptoSaid : Prop := chartNamesUptoRow.holds Try.pinned (OpenSpec.upto chartNamesSpec)

/-- 'lombardlaw17.ChartNets', WHERE WHAT IT READS IS OF BULK AT MOST 1048576: true; the input reads as it did. -/
def chartNetsUptoRow : OpenClaim := { program := "ytmafmbcgjeecjaa", sum := "ac5576af2e1df8a9b120bcd39ad79c6eed90ccaa4b739480270f8a7455fa22b4", func := "lombard/lombardlaw17.ChartNets", spec := "chartNets", inPlace := ["math/bits.Add64"], unfollowed := true, recurses := true, apart := false, narrowed := true }
def ChartNetsUptoSaid : Prop := chartNetsUptoRow.holds Try.pinned (OpenSpec.upto chartNetsSpec)

/-- 'lombardlaw17.ChartTwice', WHERE WHAT IT READS IS OF BULK AT MOST 1048576: true; the input reads as it did. -/
def chartTwiceUptoRow : OpenClaim := { program := "ytmafmbcgjeecjaa", sum := "ac5576af2e1df8a9b120bcd39ad79c6eed90ccaa4b739480270f8a7455fa22b4", func := "lombard/lombardlaw17.ChartTwice", spec := "chartTwice", inPlace := ["math/bits.Add64"], unfollowed := true, recurses := true, apart := false, narrowed := true }
def ChartTwiceUptoSaid : Prop := chartTwiceUptoRow.holds Try.pinned (OpenSpec.upto chartTwiceSpec)

/-- 'lombardlaw17.ChartSums', WHERE WHAT IT READS IS OF BULK AT MOST 1048576: true; the input reads as it did. -/
def chartSumsUptoRow : OpenClaim := { program := "ytmafmbcgjeecjaa", sum := "ac5576af2e1df8a9b120bcd39ad79c6eed90ccaa4b739480270f8a7455fa22b4", func := "lombard/lombardlaw17.ChartSums", spec := "chartSums", inPlace := ["math/bits.Add64"], unfollowed := true, recurses := true, apart := false, narrowed := true }
def ChartSumsUptoSaid : Prop := chartSumsUptoRow.holds Try.pinned (OpenSpec.upto chartSumsSpec)

end Rows
end Go.Proofs.Ytmafmbcgjeecjaa
