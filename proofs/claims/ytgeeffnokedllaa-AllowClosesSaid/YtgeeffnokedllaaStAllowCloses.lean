-- written by this session's program wip/hybrid.py over the kit's printer, and by hand. Not trusted: Lean checks it.
import Derived.Test.YtgeeffnokedllaaOpen
import Derived.Test.YtgeeffnokedllaaPrint11
namespace Go.Proofs.Ytgeeffnokedllaa.Print
open Go.RowKit Go.Proofs.YtgeeffnokedllaaW.PrintWords Go.Proofs.YtgeeffnokedllaaW.PrintLast Go.Proofs.YtgeeffnokedllaaW.PrintMore
def AllowClosesPure : Prop := ∀ (s0 : List (S40)), (fun l_ : List (S40) => l_.length ≤ maxLen ∧ ∀ s_ ∈ l_, Wf40 s_) s0 → lombardlaw16_AllowCloses.f s0 = some true
end Go.Proofs.Ytgeeffnokedllaa.Print
