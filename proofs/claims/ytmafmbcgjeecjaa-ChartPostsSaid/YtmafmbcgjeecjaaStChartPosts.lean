-- written by this session's program wip/hybrid.py over the kit's printer, and by hand. Not trusted: Lean checks it.
import Derived.Test.YtmafmbcgjeecjaaOpen
import Derived.Test.YtmafmbcgjeecjaaPrint16
namespace Go.Proofs.Ytmafmbcgjeecjaa.Print
open Go.RowKit Go.Proofs.YtmafmbcgjeecjaaW.PrintWords Go.Proofs.YtmafmbcgjeecjaaW.PrintLast Go.Proofs.YtmafmbcgjeecjaaW.PrintMore
def ChartPostsPure : Prop := ∀ (s0 : S23), Wf23 s0 → ∃ k, lombardlaw17_ChartPosts.f k s0.f0 s0.f1 s0.f2 s0.f3 = some true
end Go.Proofs.Ytmafmbcgjeecjaa.Print
