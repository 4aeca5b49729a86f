/-
  No cell of these rows narrows 'for every input' (looked for: loops, veiled, ifaces, maps, wideKeys, modest, calm, conditions, laid).
  DERIVED. THE GIVEN ROWS OF THIS SEAT. 5 by the template 'for every input the law returns true; each argument reads behind the call as it read before'; 0 by the template 'total and deterministic' (their statements: YtjnhlglamiegbaaTotals.lean).
  GIVEN WITH THE SEED: the statements are not yours to turn. If you find one false, say at which input.
  Laid BY PROGRAM, IN A SANDBOX (cutbox-rows.mjs): the forced cells as the released guide's own fill.sh prints them over the translation 53686fd6a93a8993… (all of the seat's roots in one cut). By AI agents, Wed Nov 11 2026. No macro, syntax, notation, axiom, sorry.
-/
import Derived.Test.YtjnhlglamiegbaaChecked
import GoSem.Claim
import GoSem.ClaimJoined
import GoSem.ClaimMapViews
import Derived.JoinedTies
import Derived.KernelRfl
namespace Go.Proofs.Ytjnhlglamiegbaa
/- THE CELL 'sum', in the pinned program and in every row, IS THE sha256 OF THE DUMP (.gsa) THAT YtjnhlglamiegbaaProg.lean LOADS. Nothing in Lean hashes anything: it is a label: what it is worth is what the hold of that sum in a sandbox is worth. -/
noncomputable def Try.pinned : Pinned := { name := "ytjnhlglamiegbaa", sum := "53686fd6a93a8993053169080d2f0e02797017b90aa20ee5a6723a2588f77561", checked := Try.checked }
namespace Rows
def none {H : Type} : Left H := { results := [], args := [] }

/-- 'lombardlaw14.StageNext': WHATEVER THE INPUT: true; the input reads as it did. -/
def stageNextSpec : ChangeSpec := { name := "stageNext", fn := fun _ => fun
  | [d1, d2] => { results := [.lit (.bool true)], args := [d1, d2] }
  | _ => none }
def stageNextRow : OpenClaim := { program := "ytjnhlglamiegbaa", sum := "53686fd6a93a8993053169080d2f0e02797017b90aa20ee5a6723a2588f77561", func := "lombard/lombardlaw14.StageNext", spec := "stageNext", unfollowed := true, recurses := true, apart := false }
def StageNextSaid : Prop := stageNextRow.holds Try.pinned (OpenSpec.ofChange stageNextSpec)

/-- ITS FALSE NEIGHBOUR: 'it returns false'. Refute it at one input. -/
def stageNextWrong : ChangeSpec := { name := "stageNext", fn := fun _ => fun
  | [d1, d2] => { results := [.lit (.bool false)], args := [d1, d2] }
  | _ => none }
def StageNextWrongFalsely : Prop := stageNextRow.holds Try.pinned (OpenSpec.ofChange stageNextWrong)

/-- 'lombardlaw14.StageRuns': WHATEVER THE INPUT: true; the input reads as it did. -/
def stageRunsSpec : ChangeSpec := { name := "stageRuns", fn := fun _ => fun
  | [d] => { results := [.lit (.bool true)], args := [d] }
  | _ => none }
def stageRunsRow : OpenClaim := { program := "ytjnhlglamiegbaa", sum := "53686fd6a93a8993053169080d2f0e02797017b90aa20ee5a6723a2588f77561", func := "lombard/lombardlaw14.StageRuns", spec := "stageRuns", unfollowed := true, recurses := true, apart := false }
def StageRunsSaid : Prop := stageRunsRow.holds Try.pinned (OpenSpec.ofChange stageRunsSpec)

/-- ITS FALSE NEIGHBOUR: 'it returns false'. Refute it at one input. -/
def stageRunsWrong : ChangeSpec := { name := "stageRuns", fn := fun _ => fun
  | [d] => { results := [.lit (.bool false)], args := [d] }
  | _ => none }
def StageRunsWrongFalsely : Prop := stageRunsRow.holds Try.pinned (OpenSpec.ofChange stageRunsWrong)

/-- 'lombardlaw14.StageMoves': WHATEVER THE INPUT: true; the input reads as it did. -/
def stageMovesSpec : ChangeSpec := { name := "stageMoves", fn := fun _ => fun
  | [d] => { results := [.lit (.bool true)], args := [d] }
  | _ => none }
def stageMovesRow : OpenClaim := { program := "ytjnhlglamiegbaa", sum := "53686fd6a93a8993053169080d2f0e02797017b90aa20ee5a6723a2588f77561", func := "lombard/lombardlaw14.StageMoves", spec := "stageMoves", unfollowed := true, recurses := true, apart := false }
def StageMovesSaid : Prop := stageMovesRow.holds Try.pinned (OpenSpec.ofChange stageMovesSpec)

/-- ITS FALSE NEIGHBOUR: 'it returns false'. Refute it at one input. -/
def stageMovesWrong : ChangeSpec := { name := "stageMoves", fn := fun _ => fun
  | [d] => { results := [.lit (.bool false)], args := [d] }
  | _ => none }
def StageMovesWrongFalsely : Prop := stageMovesRow.holds Try.pinned (OpenSpec.ofChange stageMovesWrong)

/-- 'lombardlaw14.StageWorse': WHATEVER THE INPUT: true; the input reads as it did. -/
def stageWorseSpec : ChangeSpec := { name := "stageWorse", fn := fun _ => fun
  | [d] => { results := [.lit (.bool true)], args := [d] }
  | _ => none }
def stageWorseRow : OpenClaim := { program := "ytjnhlglamiegbaa", sum := "53686fd6a93a8993053169080d2f0e02797017b90aa20ee5a6723a2588f77561", func := "lombard/lombardlaw14.StageWorse", spec := "stageWorse", unfollowed := true, recurses := true, apart := false }
def StageWorseSaid : Prop := stageWorseRow.holds Try.pinned (OpenSpec.ofChange stageWorseSpec)

/-- ITS FALSE NEIGHBOUR: 'it returns false'. Refute it at one input. -/
def stageWorseWrong : ChangeSpec := { name := "stageWorse", fn := fun _ => fun
  | [d] => { results := [.lit (.bool false)], args := [d] }
  | _ => none }
def StageWorseWrongFalsely : Prop := stageWorseRow.holds Try.pinned (OpenSpec.ofChange stageWorseWrong)

/-- 'lombardlaw14.StageCures': WHATEVER THE INPUT: true; the input reads as it did. -/
def stageCuresSpec : ChangeSpec := { name := "stageCures", fn := fun _ => fun
  | [d] => { results := [.lit (.bool true)], args := [d] }
  | _ => none }
def stageCuresRow : OpenClaim := { program := "ytjnhlglamiegbaa", sum := "53686fd6a93a8993053169080d2f0e02797017b90aa20ee5a6723a2588f77561", func := "lombard/lombardlaw14.StageCures", spec := "stageCures", unfollowed := true, recurses := true, apart := false }
def StageCuresSaid : Prop := stageCuresRow.holds Try.pinned (OpenSpec.ofChange stageCuresSpec)

/-- ITS FALSE NEIGHBOUR: 'it returns false'. Refute it at one input. -/
def stageCuresWrong : ChangeSpec := { name := "stageCures", fn := fun _ => fun
  | [d] => { results := [.lit (.bool false)], args := [d] }
  | _ => none }
def StageCuresWrongFalsely : Prop := stageCuresRow.holds Try.pinned (OpenSpec.ofChange stageCuresWrong)

/- THE SECOND FORM. 'bulk': how many values and letters a reading holds, each counted each time it is reached (what is shared counts as often as it is met; a slice's spare places count too). A statement '..UptoSaid' is the law's where the arguments, and the package variables that the reading takes, are together of bulk at most 1048576: NARROWER than '..Said'. Prove '..Said' where nothing that the law and all that it calls make is longer than what came in: it says more and counts as full. Else prove '..UptoSaid'. A law counts once. -/
mutual
def uptoBulk {H : Type} : DataW H → Nat
  | .lit (.string bytes) => bytes.length + 1
  | .lit _ => 1
  | .nil => 1
  | .ptr d => uptoBulk d + 1
  | .slice elems spare => uptoBulkAll elems + uptoBulkAll spare + 1
  | .agg parts => uptoBulkAll parts + 1
  | .iface _ d => uptoBulk d + 1
  | .map entries => uptoBulkEntries entries + 1
  | .held _ => 1
def uptoBulkAll {H : Type} : List (DataW H) → Nat
  | [] => 0
  | d :: r => uptoBulk d + uptoBulkAll r
def uptoBulkEntries {H : Type} : List (Lit × DataW H) → Nat
  | [] => 0
  | x :: r => uptoBulkEntry x + uptoBulkEntries r
def uptoBulkEntry {H : Type} : Lit × DataW H → Nat
  | (.string bytes, d) => bytes.length + uptoBulk d + 1
  | (_, d) => uptoBulk d + 1
 end
def uptoSmall : (H : Type) → List (DataW H) → Bool := fun _ ds => decide (uptoBulkAll ds ≤ 1048576)
def OpenSpec.upto (s : _root_.Go.ChangeSpec) : _root_.Go.OpenSpec := { _root_.Go.OpenSpec.ofChange s with cond := some uptoSmall }

/-- 'lombardlaw14.StageNext', WHERE WHAT IT READS IS OF BULK AT MOST 1048576: true; the input reads as it did. -/
def stageNextUptoRow : OpenClaim := { program := "ytjnhlglamiegbaa", sum := "53686fd6a93a8993053169080d2f0e02797017b90aa20ee5a6723a2588f77561", func := "lombard/lombardlaw14.StageNext", spec := "stageNext", unfollowed := true, recurses := true, apart := false, narrowed := true }
def StageNextUptoSaid : Prop := stageNextUptoRow.holds Try.pinned (OpenSpec.upto stageNextSpec)

/-- 'lombardlaw14.StageRuns', WHERE WHAT IT READS IS OF BULK AT MOST 1048576: true; the input reads as it did. -/
def stageRunsUptoRow : OpenClaim := { program := "ytjnhlglamiegbaa", sum := "53686fd6a93a8993053169080d2f0e02797017b90aa20ee5a6723a2588f77561", func := "lombard/lombardlaw14.StageRuns", spec := "stageRuns", unfollowed := true, recurses := true, apart := false, narrowed := true }
def StageRunsUptoSaid : Prop := stageRunsUptoRow.holds Try.pinned (OpenSpec.upto stageRunsSpec)

/-- 'lombardlaw14.StageMoves', WHERE WHAT IT READS IS OF BULK AT MOST 1048576: true; the input reads as it did. -/
def stageMovesUptoRow : OpenClaim := { program := "ytjnhlglamiegbaa", sum := "53686fd6a93a8993053169080d2f0e02797017b90aa20ee5a6723a2588f77561", func := "lombard/lombardlaw14.StageMoves", spec := "stageMoves", unfollowed := true, recurses := true, apart := false, narrowed := true }
def StageMovesUptoSaid : Prop := stageMovesUptoRow.holds Try.pinned (OpenSpec.upto stageMovesSpec)

/-- 'lombardlaw14.StageWorse', WHERE WHAT IT READS IS OF BULK AT MOST 1048576: true; the input reads as it did. -/
def stageWorseUptoRow : OpenClaim := { program := "ytjnhlglamiegbaa", sum := "53686fd6a93a8993053169080d2f0e02797017b90aa20ee5a6723a2588f77561", func := "lombard/lombardlaw14.StageWorse", spec := "stageWorse", unfollowed := true, recurses := true, apart := false, narrowed := true }
def StageWorseUptoSaid : Prop := stageWorseUptoRow.holds Try.pinned (OpenSpec.upto stageWorseSpec)

/-- 'lombardlaw14.StageCures', WHERE WHAT IT READS IS OF BULK AT MOST 1048576: true; the input reads as it did. -/
def stageCuresUptoRow : OpenClaim := { program := "ytjnhlglamiegbaa", sum := "53686fd6a93a8993053169080d2f0e02797017b90aa20ee5a6723a2588f77561", func := "lombard/lombardlaw14.StageCures", spec := "stageCures", unfollowed := true, recurses := true, apart := false, narrowed := true }
def StageCuresUptoSaid : Prop := stageCuresUptoRow.holds Try.pinned (OpenSpec.upto stageCuresSpec)

end Rows
end Go.Proofs.Ytjnhlglamiegbaa
