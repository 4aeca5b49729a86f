-- written by this session's program wip/hybrid.py over the kit's printer, and by hand. Not trusted: Lean checks it.
import Derived.Test.YtepgponpnijonaaOpen
import Derived.Test.YtepgponpnijonaaPrint20
namespace Go.Proofs.Ytepgponpnijonaa.Print
open Go.RowKit Go.Proofs.YtepgponpnijonaaW.PrintWords Go.Proofs.YtepgponpnijonaaW.PrintLast Go.Proofs.YtepgponpnijonaaW.PrintMore
def BatchGetsPure : Prop := ∀ (s0 : List Int), (fun l_ : List Int => l_.length ≤ maxLen ∧ ∀ s_ ∈ l_, (fun n_ : Int => (Lit.int .u8 n_).wf = true) s_) s0 → ∃ k, lombardlaw18_BatchGets.f k s0 = some true
end Go.Proofs.Ytepgponpnijonaa.Print
