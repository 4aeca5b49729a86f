/-
  No cell of these rows narrows 'for every input' (looked for: loops, veiled, ifaces, maps, wideKeys, modest, calm, conditions, laid).
  DERIVED. THE GIVEN ROWS OF THIS SEAT. 5 by the template 'for every input the law returns true; each argument reads behind the call as it read before'; 0 by the template 'total and deterministic' (their statements: YtpfkjjaohmdnjaaTotals.lean).
  GIVEN WITH THE SEED: the statements are not yours to turn. If you find one false, say at which input.
  Laid BY PROGRAM, IN A SANDBOX (cutbox-rows.mjs): the forced cells as the released guide's own fill.sh prints them over the translation d62b62dea6cfc994… (all of the seat's roots in one cut). By AI agents, Wed Nov 11 2026. No macro, syntax, notation, axiom, sorry.
-/
import Derived.Test.YtpfkjjaohmdnjaaChecked
import GoSem.Claim
import GoSem.ClaimJoined
import GoSem.ClaimMapViews
import Derived.JoinedTies
import Derived.KernelRfl
namespace Go.Proofs.Ytpfkjjaohmdnjaa
/- THE CELL 'sum', in the pinned program and in every row, IS THE sha256 OF THE DUMP (.gsa) THAT YtpfkjjaohmdnjaaProg.lean LOADS. Nothing in Lean hashes anything: it is a label: what it is worth is what the hold of that sum in a sandbox is worth. -/
noncomputable def Try.pinned : Pinned := { name := "ytpfkjjaohmdnjaa", sum := "d62b62dea6cfc994bbc3e58347915e47412c0edeec814521b61ea584d66a6c31", checked := Try.checked }
namespace Rows
def none {H : Type} : Left H := { results := [], args := [] }

/-- 'lombardlaw19.BlockPlays': WHATEVER THE INPUT: true; the input reads as it did. -/
def blockPlaysSpec : ChangeSpec := { name := "blockPlays", fn := fun _ => fun
  | [d1, d2] => { results := [.lit (.bool true)], args := [d1, d2] }
  | _ => none }
def blockPlaysRow : OpenClaim := { program := "ytpfkjjaohmdnjaa", sum := "d62b62dea6cfc994bbc3e58347915e47412c0edeec814521b61ea584d66a6c31", func := "lombard/lombardlaw19.BlockPlays", spec := "blockPlays", unfollowed := true, recurses := true, apart := false }
def BlockPlaysSaid : Prop := blockPlaysRow.holds Try.pinned (OpenSpec.ofChange blockPlaysSpec)

/-- ITS FALSE NEIGHBOUR: 'it returns false'. Refute it at one input. -/
def blockPlaysWrong : ChangeSpec := { name := "blockPlays", fn := fun _ => fun
  | [d1, d2] => { results := [.lit (.bool false)], args := [d1, d2] }
  | _ => none }
def BlockPlaysWrongFalsely : Prop := blockPlaysRow.holds Try.pinned (OpenSpec.ofChange blockPlaysWrong)

/-- 'lombardlaw19.BlockLasts': WHATEVER THE INPUT: true; the input reads as it did. -/
def blockLastsSpec : ChangeSpec := { name := "blockLasts", fn := fun _ => fun
  | [d1, d2] => { results := [.lit (.bool true)], args := [d1, d2] }
  | _ => none }
def blockLastsRow : OpenClaim := { program := "ytpfkjjaohmdnjaa", sum := "d62b62dea6cfc994bbc3e58347915e47412c0edeec814521b61ea584d66a6c31", func := "lombard/lombardlaw19.BlockLasts", spec := "blockLasts", unfollowed := true, recurses := true, apart := false }
def BlockLastsSaid : Prop := blockLastsRow.holds Try.pinned (OpenSpec.ofChange blockLastsSpec)

/-- ITS FALSE NEIGHBOUR: 'it returns false'. Refute it at one input. -/
def blockLastsWrong : ChangeSpec := { name := "blockLasts", fn := fun _ => fun
  | [d1, d2] => { results := [.lit (.bool false)], args := [d1, d2] }
  | _ => none }
def BlockLastsWrongFalsely : Prop := blockLastsRow.holds Try.pinned (OpenSpec.ofChange blockLastsWrong)

/-- 'lombardlaw19.BlockReads': WHATEVER THE INPUT: true; the input reads as it did. -/
def blockReadsSpec : ChangeSpec := { name := "blockReads", fn := fun _ => fun
  | [d] => { results := [.lit (.bool true)], args := [d] }
  | _ => none }
def blockReadsRow : OpenClaim := { program := "ytpfkjjaohmdnjaa", sum := "d62b62dea6cfc994bbc3e58347915e47412c0edeec814521b61ea584d66a6c31", func := "lombard/lombardlaw19.BlockReads", spec := "blockReads", unfollowed := true, recurses := true, apart := false }
def BlockReadsSaid : Prop := blockReadsRow.holds Try.pinned (OpenSpec.ofChange blockReadsSpec)

/-- ITS FALSE NEIGHBOUR: 'it returns false'. Refute it at one input. -/
def blockReadsWrong : ChangeSpec := { name := "blockReads", fn := fun _ => fun
  | [d] => { results := [.lit (.bool false)], args := [d] }
  | _ => none }
def BlockReadsWrongFalsely : Prop := blockReadsRow.holds Try.pinned (OpenSpec.ofChange blockReadsWrong)

/-- 'lombardlaw19.BlockGoes': WHATEVER THE INPUT: true; the input reads as it did. -/
def blockGoesSpec : ChangeSpec := { name := "blockGoes", fn := fun _ => fun
  | [d] => { results := [.lit (.bool true)], args := [d] }
  | _ => none }
def blockGoesRow : OpenClaim := { program := "ytpfkjjaohmdnjaa", sum := "d62b62dea6cfc994bbc3e58347915e47412c0edeec814521b61ea584d66a6c31", func := "lombard/lombardlaw19.BlockGoes", spec := "blockGoes", unfollowed := true, recurses := true, apart := false }
def BlockGoesSaid : Prop := blockGoesRow.holds Try.pinned (OpenSpec.ofChange blockGoesSpec)

/-- ITS FALSE NEIGHBOUR: 'it returns false'. Refute it at one input. -/
def blockGoesWrong : ChangeSpec := { name := "blockGoes", fn := fun _ => fun
  | [d] => { results := [.lit (.bool false)], args := [d] }
  | _ => none }
def BlockGoesWrongFalsely : Prop := blockGoesRow.holds Try.pinned (OpenSpec.ofChange blockGoesWrong)

/-- 'lombardlaw19.BlockSyncs': WHATEVER THE INPUT: true; the input reads as it did. -/
def blockSyncsSpec : ChangeSpec := { name := "blockSyncs", fn := fun _ => fun
  | [d] => { results := [.lit (.bool true)], args := [d] }
  | _ => none }
def blockSyncsRow : OpenClaim := { program := "ytpfkjjaohmdnjaa", sum := "d62b62dea6cfc994bbc3e58347915e47412c0edeec814521b61ea584d66a6c31", func := "lombard/lombardlaw19.BlockSyncs", spec := "blockSyncs", unfollowed := true, recurses := true, apart := false }
def BlockSyncsSaid : Prop := blockSyncsRow.holds Try.pinned (OpenSpec.ofChange blockSyncsSpec)

/-- ITS FALSE NEIGHBOUR: 'it returns false'. Refute it at one input. -/
def blockSyncsWrong : ChangeSpec := { name := "blockSyncs", fn := fun _ => fun
  | [d] => { results := [.lit (.bool false)], args := [d] }
  | _ => none }
def BlockSyncsWrongFalsely : Prop := blockSyncsRow.holds Try.pinned (OpenSpec.ofChange blockSyncsWrong)

/- THE SECOND FORM. 'bulk': how many values and letters a reading holds, each counted each time it is reached (what is shared counts as often as it is met; a slice's spare places count too). A statement '..UptoSaid' is the law's where the arguments, and the package variables that the reading takes, are together of bulk at most 1048576: NARROWER than '..Said'. Prove '..Said' where nothing that the law and all that it calls make is longer than what came in: it says more and counts as full. Else prove '..UptoSaid'. A law counts once. -/
mutual
def uptoBulk {H : Type} : DataW H → Nat
  | .lit (.string bytes) => bytes.length + 1
  | .lit _ => 1
  | .nil => 1
  | .ptr d => uptoBulk d + 1
  | .slice elems spare => uptoBulkAll elems + uptoBulkAll spare + 1
  | .agg parts => uptoBulkAll parts + 1
  | .iface _ d => uptoBulk d + 1
  | .map entries => uptoBulkEntries entries + 1
  | .held _ => 1
def uptoBulkAll {H : Type} : List (DataW H) → Nat
  | [] => 0
  | d :: r => uptoBulk d + uptoBulkAll r
def uptoBulkEntries {H : Type} : List (Lit × DataW H) → Nat
  | [] => 0
  | x :: r => uptoBulkEntry x + uptoBulkEntries r
def uptoBulkEntry {H : Type} : Lit × DataW H → Nat
  | (.string bytes, d) => bytes.length + uptoBulk d + 1
  | (_, d) => uptoBulk d + 1
 end
def uptoSmall : (H : Type) → List (DataW H) → Bool := fun _ ds => decide (uptoBulkAll ds ≤ 1048576)
def OpenSpec.upto (s : _root_.Go.ChangeSpec) : _root_.Go.OpenSpec := { _root_.Go.OpenSpec.ofChange s with cond := some uptoSmall }

/-- 'lombardlaw19.BlockPlays', WHERE WHAT IT READS IS OF BULK AT MOST 1048576: true; the input reads as it did. -/
def blockPlaysUptoRow : OpenClaim := { program := "ytpfkjjaohmdnjaa", sum := "d62b62dea6cfc994bbc3e58347915e47412c0edeec814521b61ea584d66a6c31", func := "lombard/lombardlaw19.BlockPlays", spec := "blockPlays", unfollowed := true, recurses := true, apart := false, narrowed := true }
def BlockPlaysUptoSaid : Prop := blockPlaysUptoRow.holds Try.pinned (OpenSpec.upto blockPlaysSpec)

/-- 'lombardlaw19.BlockLasts', WHERE WHAT IT READS IS OF BULK AT MOST 1048576: true; the input reads as it did. -/
def blockLastsUptoRow : OpenClaim := { program := "ytpfkjjaohmdnjaa", sum := "d62b62dea6cfc994bbc3e58347915e47412c0edeec814521b61ea584d66a6c31", func := "lombard/lombardlaw19.BlockLasts", spec := "blockLasts", unfollowed := true, recurses := true, apart := false, narrowed := true }
def BlockLastsUptoSaid : Prop := blockLastsUptoRow.holds Try.pinned (OpenSpec.upto blockLastsSpec)

/-- 'lombardlaw19.BlockReads', WHERE WHAT IT READS IS OF BULK AT MOST 1048576: true; the input reads as it did. -/
def blockReadsUptoRow : OpenClaim := { program := "ytpfkjjaohmdnjaa", sum := "d62b62dea6cfc994bbc3e58347915e47412c0edeec814521b61ea584d66a6c31", func := "lombard/lombardlaw19.BlockReads", spec := "blockReads", unfollowed := true, recurses := true, apart := false, narrowed := true }
def BlockReadsUptoSaid : Prop := blockReadsUptoRow.holds Try.pinned (OpenSpec.upto blockReadsSpec)

/-- 'lombardlaw19.BlockGoes', WHERE WHAT IT READS IS OF BULK AT MOST 1048576: true; the input reads as it did. -/
def blockGoesUptoRow : OpenClaim := { program := "ytpfkjjaohmdnjaa", sum := "d62b62dea6cfc994bbc3e58347915e47412c0edeec814521b61ea584d66a6c31", func := "lombard/lombardlaw19.BlockGoes", spec := "blockGoes", unfollowed := true, recurses := true, apart := false, narrowed := true }
def BlockGoesUptoSaid : Prop := blockGoesUptoRow.holds Try.pinned (OpenSpec.upto blockGoesSpec)

/-- 'lombardlaw19.BlockSyncs', WHERE WHAT IT READS IS OF BULK AT MOST 1048576: true; the input reads as it did. -/
def blockSyncsUptoRow : OpenClaim := { program := "ytpfkjjaohmdnjaa", sum := "d62b62dea6cfc994bbc3e58347915e47412c0edeec814521b61ea584d66a6c31", func := "lombard/lombardlaw19.BlockSyncs", spec := "blockSyncs", unfollowed := true, recurses := true, apart := false, narrowed := true }
def BlockSyncsUptoSaid : Prop := blockSyncsUptoRow.holds Try.pinned (OpenSpec.upto blockSyncsSpec)

end Rows
end Go.Proofs.Ytpfkjjaohmdnjaa
