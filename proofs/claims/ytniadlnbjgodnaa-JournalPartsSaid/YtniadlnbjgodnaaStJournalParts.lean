-- written by this session's program wip/hybrid.py over the kit's printer, and by hand. Not trusted: Lean checks it.
import Derived.Test.YtniadlnbjgodnaaOpen
import Derived.Test.YtniadlnbjgodnaaPrint11
namespace Go.Proofs.Ytniadlnbjgodnaa.Print
open Go.RowKit Go.Proofs.YtniadlnbjgodnaaW.PrintWords Go.Proofs.YtniadlnbjgodnaaW.PrintLast Go.Proofs.YtniadlnbjgodnaaW.PrintMore
def JournalPartsPure : Prop := ∀ (s0 : S66), Wf66 s0 → lombardlaw20_JournalParts.f s0.f0 s0.f1 s0.f2 s0.f3 = some true
end Go.Proofs.Ytniadlnbjgodnaa.Print
