-- written by this session's program wip/hybrid.py over the kit's printer, and by hand. Not trusted: Lean checks it.
import Derived.Test.YtniadlnbjgodnaaOpen
import Derived.Test.YtniadlnbjgodnaaPrint10
namespace Go.Proofs.Ytniadlnbjgodnaa.Print
open Go.RowKit Go.Proofs.YtniadlnbjgodnaaW.PrintWords Go.Proofs.YtniadlnbjgodnaaW.PrintLast Go.Proofs.YtniadlnbjgodnaaW.PrintMore
def JournalCrashesPure : Prop := ∀ (s0 : List (S40)), (fun l_ : List (S40) => l_.length ≤ maxLen ∧ ∀ s_ ∈ l_, Wf40 s_) s0 → lombardlaw20_JournalCrashes.f s0 = some true
end Go.Proofs.Ytniadlnbjgodnaa.Print
