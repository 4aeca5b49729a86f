-- written by this session's program wip/hybrid.py over the kit's printer, and by hand. Not trusted: Lean checks it.
import Derived.Test.YtmafmbcgjeecjaaOpen
import Derived.Test.YtmafmbcgjeecjaaPrint22
namespace Go.Proofs.Ytmafmbcgjeecjaa.Print
open Go.RowKit Go.Proofs.YtmafmbcgjeecjaaW.PrintWords Go.Proofs.YtmafmbcgjeecjaaW.PrintLast Go.Proofs.YtmafmbcgjeecjaaW.PrintMore
def ChartSumsPure : Prop := ∀ (s0 : List (S48)) (s1 : Int), (fun l_ : List (S48) => l_.length ≤ maxLen ∧ ∀ s_ ∈ l_, Wf48 s_) s0 → (fun n_ : Int => (Lit.int .u8 n_).wf = true) s1 → ∃ k, lombardlaw17_ChartSums.f k s0 s1 = some true
end Go.Proofs.Ytmafmbcgjeecjaa.Print
