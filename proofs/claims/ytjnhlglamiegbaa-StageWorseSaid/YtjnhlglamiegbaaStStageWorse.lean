-- written by this session's program wip/hybrid.py over the kit's printer, and by hand. Not trusted: Lean checks it.
import Derived.Test.YtjnhlglamiegbaaOpen
import Derived.Test.YtjnhlglamiegbaaPrint9
namespace Go.Proofs.Ytjnhlglamiegbaa.Print
open Go.RowKit Go.Proofs.YtjnhlglamiegbaaW.PrintWords Go.Proofs.YtjnhlglamiegbaaW.PrintLast Go.Proofs.YtjnhlglamiegbaaW.PrintMore
def StageWorsePure : Prop := ∀ (s0 : S47), Wf47 s0 → ∃ k, lombardlaw14_StageWorse.f k s0.f0.f0 s0.f0.f1 s0.f1.f0 s0.f1.f1 s0.f1.f2 s0.f2 s0.f3 s0.f4 s0.f5 = some true
end Go.Proofs.Ytjnhlglamiegbaa.Print
