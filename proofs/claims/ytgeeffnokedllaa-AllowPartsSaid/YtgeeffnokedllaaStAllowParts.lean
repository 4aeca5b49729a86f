-- written by this session's program wip/hybrid.py over the kit's printer, and by hand. Not trusted: Lean checks it.
import Derived.Test.YtgeeffnokedllaaOpen
import Derived.Test.YtgeeffnokedllaaPrint11
namespace Go.Proofs.Ytgeeffnokedllaa.Print
open Go.RowKit Go.Proofs.YtgeeffnokedllaaW.PrintWords Go.Proofs.YtgeeffnokedllaaW.PrintLast Go.Proofs.YtgeeffnokedllaaW.PrintMore
def AllowPartsPure : Prop := ∀ (s0 : S22) (s1 : List (S40)) (s2 : Int), Wf22 s0 → (fun l_ : List (S40) => l_.length ≤ maxLen ∧ ∀ s_ ∈ l_, Wf40 s_) s1 → (fun n_ : Int => (Lit.int .u8 n_).wf = true) s2 → lombardlaw16_AllowParts.f s0.f0 s0.f1 s0.f2 s1 s2 = some true
end Go.Proofs.Ytgeeffnokedllaa.Print
