-- written by this session's program wip/hybrid.py over the kit's printer, and by hand. Not trusted: Lean checks it.
import Derived.Test.YtpfkjjaohmdnjaaOpen
import Derived.Test.YtpfkjjaohmdnjaaPrint6
namespace Go.Proofs.Ytpfkjjaohmdnjaa.Print
open Go.RowKit Go.Proofs.YtpfkjjaohmdnjaaW.PrintWords Go.Proofs.YtpfkjjaohmdnjaaW.PrintLast Go.Proofs.YtpfkjjaohmdnjaaW.PrintMore
def BlockSyncsPure : Prop := ∀ (s0 : List (S34)), (fun l_ : List (S34) => l_.length ≤ maxLen ∧ ∀ s_ ∈ l_, Wf34 s_) s0 → lombardlaw19_BlockSyncs.f s0 = some true
end Go.Proofs.Ytpfkjjaohmdnjaa.Print
