-- written by this session's program wip/hybrid.py over the kit's printer, and by hand. Not trusted: Lean checks it.
import Derived.Test.YtpolkjmdkeengaaOpen
import Derived.Test.YtpolkjmdkeengaaPrint18
namespace Go.Proofs.Ytpolkjmdkeengaa.Print
open Go.RowKit Go.Proofs.YtpolkjmdkeengaaW.PrintWords Go.Proofs.YtpolkjmdkeengaaW.PrintLast Go.Proofs.YtpolkjmdkeengaaW.PrintMore
def FlowBothPure : Prop := ∀ (s0 : List (S40)) (s1 : List (S40)), (fun l_ : List (S40) => l_.length ≤ maxLen ∧ ∀ s_ ∈ l_, Wf40 s_) s0 → (fun l_ : List (S40) => l_.length ≤ maxLen ∧ ∀ s_ ∈ l_, Wf40 s_) s1 → ∃ k, lombardlaw07_FlowBoth.f k s0 s1 = some true
end Go.Proofs.Ytpolkjmdkeengaa.Print
