-- written by this session's program wip/hybrid.py over the kit's printer, and by hand. Not trusted: Lean checks it.
import Derived.Test.YtpcllhhbaockfaaOpen
import Derived.Test.YtpcllhhbaockfaaPrint27
namespace Go.Proofs.Ytpcllhhbaockfaa.Print
open Go.RowKit Go.Proofs.YtpcllhhbaockfaaW.PrintWords Go.Proofs.YtpcllhhbaockfaaW.PrintLast Go.Proofs.YtpcllhhbaockfaaW.PrintMore
def CloseStaysPure : Prop := ∀ (s0 : List (S34)), (fun l_ : List (S34) => l_.length ≤ maxLen ∧ ∀ s_ ∈ l_, Wf34 s_) s0 → lombardlaw23_CloseStays.f s0 = some true
end Go.Proofs.Ytpcllhhbaockfaa.Print
