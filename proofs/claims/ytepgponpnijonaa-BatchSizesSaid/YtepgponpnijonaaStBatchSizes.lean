-- written by this session's program wip/hybrid.py over the kit's printer, and by hand. Not trusted: Lean checks it.
import Derived.Test.YtepgponpnijonaaOpen
import Derived.Test.YtepgponpnijonaaPrint23
namespace Go.Proofs.Ytepgponpnijonaa.Print
open Go.RowKit Go.Proofs.YtepgponpnijonaaW.PrintWords Go.Proofs.YtepgponpnijonaaW.PrintLast Go.Proofs.YtepgponpnijonaaW.PrintMore
def BatchSizesPure : Prop := ∀ (s0 : S24) (s1 : S24), Wf24 s0 → Wf24 s1 → ∃ k, lombardlaw18_BatchSizes.f k s0.f0 s0.f1 s0.f2 s1.f0 s1.f1 s1.f2 = some true
end Go.Proofs.Ytepgponpnijonaa.Print
