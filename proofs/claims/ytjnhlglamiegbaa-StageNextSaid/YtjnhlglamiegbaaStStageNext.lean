-- written by this session's program wip/hybrid.py over the kit's printer, and by hand. Not trusted: Lean checks it.
import Derived.Test.YtjnhlglamiegbaaOpen
import Derived.Test.YtjnhlglamiegbaaPrint7
namespace Go.Proofs.Ytjnhlglamiegbaa.Print
open Go.RowKit Go.Proofs.YtjnhlglamiegbaaW.PrintWords Go.Proofs.YtjnhlglamiegbaaW.PrintLast Go.Proofs.YtjnhlglamiegbaaW.PrintMore
def StageNextPure : Prop := ∀ (s0 : S23) (s1 : S25), Wf23 s0 → Wf25 s1 → ∃ k, lombardlaw14_StageNext.f k s0.f0 s0.f1 s1.f0 s1.f1 s1.f2 = some true
end Go.Proofs.Ytjnhlglamiegbaa.Print
