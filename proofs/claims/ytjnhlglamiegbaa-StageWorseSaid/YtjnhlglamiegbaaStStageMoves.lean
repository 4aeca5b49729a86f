-- written by this session's program wip/hybrid.py over the kit's printer, and by hand. Not trusted: Lean checks it.
import Derived.Test.YtjnhlglamiegbaaOpen
import Derived.Test.YtjnhlglamiegbaaPrint8
namespace Go.Proofs.Ytjnhlglamiegbaa.Print
open Go.RowKit Go.Proofs.YtjnhlglamiegbaaW.PrintWords Go.Proofs.YtjnhlglamiegbaaW.PrintLast Go.Proofs.YtjnhlglamiegbaaW.PrintMore
def StageMovesPure : Prop := ∀ (s0 : List (S25)), (fun l_ : List (S25) => l_.length ≤ maxLen ∧ ∀ s_ ∈ l_, Wf25 s_) s0 → ∃ k, lombardlaw14_StageMoves.f k s0 = some true
end Go.Proofs.Ytjnhlglamiegbaa.Print
