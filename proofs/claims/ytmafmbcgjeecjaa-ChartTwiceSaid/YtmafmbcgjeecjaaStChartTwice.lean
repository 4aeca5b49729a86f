-- written by this session's program wip/hybrid.py over the kit's printer, and by hand. Not trusted: Lean checks it.
import Derived.Test.YtmafmbcgjeecjaaOpen
import Derived.Test.YtmafmbcgjeecjaaPrint21
namespace Go.Proofs.Ytmafmbcgjeecjaa.Print
open Go.RowKit Go.Proofs.YtmafmbcgjeecjaaW.PrintWords Go.Proofs.YtmafmbcgjeecjaaW.PrintLast Go.Proofs.YtmafmbcgjeecjaaW.PrintMore
def ChartTwicePure : Prop := ∀ (s0 : Int) (s1 : Int), (fun n_ : Int => (Lit.int .i64 n_).wf = true) s0 → (fun n_ : Int => (Lit.int .i64 n_).wf = true) s1 → ∃ k, lombardlaw17_ChartTwice.f k s0 s1 = some true
end Go.Proofs.Ytmafmbcgjeecjaa.Print
