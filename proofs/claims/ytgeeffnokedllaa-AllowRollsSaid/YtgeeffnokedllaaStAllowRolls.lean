-- written by this session's program wip/hybrid.py over the kit's printer, and by hand. Not trusted: Lean checks it.
import Derived.Test.YtgeeffnokedllaaOpen
import Derived.Test.YtgeeffnokedllaaPrint13
namespace Go.Proofs.Ytgeeffnokedllaa.Print
open Go.RowKit Go.Proofs.YtgeeffnokedllaaW.PrintWords Go.Proofs.YtgeeffnokedllaaW.PrintLast Go.Proofs.YtgeeffnokedllaaW.PrintMore
def AllowRollsPure : Prop := ∀ (s0 : S22) (s1 : List (S40)), Wf22 s0 → (fun l_ : List (S40) => l_.length ≤ maxLen ∧ ∀ s_ ∈ l_, Wf40 s_) s1 → lombardlaw16_AllowRolls.f s0.f0 s0.f1 s0.f2 s1 = some true
end Go.Proofs.Ytgeeffnokedllaa.Print
