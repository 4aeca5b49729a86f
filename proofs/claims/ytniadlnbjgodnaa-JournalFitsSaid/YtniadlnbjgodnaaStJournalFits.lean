-- written by this session's program wip/hybrid.py over the kit's printer, and by hand. Not trusted: Lean checks it.
import Derived.Test.YtniadlnbjgodnaaOpen
import Derived.Test.YtniadlnbjgodnaaPrint12
namespace Go.Proofs.Ytniadlnbjgodnaa.Print
open Go.RowKit Go.Proofs.YtniadlnbjgodnaaW.PrintWords Go.Proofs.YtniadlnbjgodnaaW.PrintLast Go.Proofs.YtniadlnbjgodnaaW.PrintMore
def JournalFitsPure : Prop := ∀ (s0 : Int) (s1 : List Int), (fun n_ : Int => (Lit.int .u8 n_).wf = true) s0 → (fun l_ : List Int => l_.length ≤ maxLen ∧ ∀ s_ ∈ l_, (fun n_ : Int => (Lit.int .u16 n_).wf = true) s_) s1 → lombardlaw20_JournalFits.f s0 s1 = some true
end Go.Proofs.Ytniadlnbjgodnaa.Print
