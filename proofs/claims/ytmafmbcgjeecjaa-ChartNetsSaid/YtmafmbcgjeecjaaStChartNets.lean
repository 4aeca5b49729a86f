-- written by this session's program wip/hybrid.py over the kit's printer, and by hand. Not trusted: Lean checks it.
import Derived.Test.YtmafmbcgjeecjaaOpen
import Derived.Test.YtmafmbcgjeecjaaPrint20
namespace Go.Proofs.Ytmafmbcgjeecjaa.Print
open Go.RowKit Go.Proofs.YtmafmbcgjeecjaaW.PrintWords Go.Proofs.YtmafmbcgjeecjaaW.PrintLast Go.Proofs.YtmafmbcgjeecjaaW.PrintMore
def ChartNetsPure : Prop := ∀ (s0 : List (S48)), (fun l_ : List (S48) => l_.length ≤ maxLen ∧ ∀ s_ ∈ l_, Wf48 s_) s0 → ∃ k, lombardlaw17_ChartNets.f k s0 = some true
end Go.Proofs.Ytmafmbcgjeecjaa.Print
