-- written by this session's program wip/hybrid.py over the kit's printer, and by hand. Not trusted: Lean checks it.
import Derived.Test.YtjnhlglamiegbaaOpen
import Derived.Test.YtjnhlglamiegbaaPrint10
namespace Go.Proofs.Ytjnhlglamiegbaa.Print
open Go.RowKit Go.Proofs.YtjnhlglamiegbaaW.PrintWords Go.Proofs.YtjnhlglamiegbaaW.PrintLast Go.Proofs.YtjnhlglamiegbaaW.PrintMore
def StageCuresPure : Prop := ∀ (s0 : S23), Wf23 s0 → ∃ k, lombardlaw14_StageCures.f k s0.f0 s0.f1 = some true
end Go.Proofs.Ytjnhlglamiegbaa.Print
