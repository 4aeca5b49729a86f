-- written by this session's program wip/hybrid.py over the kit's printer, and by hand. Not trusted: Lean checks it.
import Derived.Test.YtpfkjjaohmdnjaaOpen
import Derived.Test.YtpfkjjaohmdnjaaPrint5
namespace Go.Proofs.Ytpfkjjaohmdnjaa.Print
open Go.RowKit Go.Proofs.YtpfkjjaohmdnjaaW.PrintWords Go.Proofs.YtpfkjjaohmdnjaaW.PrintLast Go.Proofs.YtpfkjjaohmdnjaaW.PrintMore
def BlockLastsPure : Prop := ∀ (s0 : List (S34)) (s1 : List (S34)), (fun l_ : List (S34) => l_.length ≤ maxLen ∧ ∀ s_ ∈ l_, Wf34 s_) s0 → (fun l_ : List (S34) => l_.length ≤ maxLen ∧ ∀ s_ ∈ l_, Wf34 s_) s1 → lombardlaw19_BlockLasts.f s0 s1 = some true
end Go.Proofs.Ytpfkjjaohmdnjaa.Print
