-- written by this session's program wip/hybrid.py over the kit's printer, and by hand. Not trusted: Lean checks it.
import Derived.Test.YtniadlnbjgodnaaOpen
import Derived.Test.YtniadlnbjgodnaaPrint9
namespace Go.Proofs.Ytniadlnbjgodnaa.Print
open Go.RowKit Go.Proofs.YtniadlnbjgodnaaW.PrintWords Go.Proofs.YtniadlnbjgodnaaW.PrintLast Go.Proofs.YtniadlnbjgodnaaW.PrintMore
def JournalPlaysPure : Prop := ∀ (s0 : Int) (s1 : List (S40)), (fun n_ : Int => (Lit.int .i64 n_).wf = true) s0 → (fun l_ : List (S40) => l_.length ≤ maxLen ∧ ∀ s_ ∈ l_, Wf40 s_) s1 → lombardlaw20_JournalPlays.f s0 s1 = some true
end Go.Proofs.Ytniadlnbjgodnaa.Print
