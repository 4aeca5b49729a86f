-- written by this session's program wip/hybrid.py over the kit's printer, and by hand. Not trusted: Lean checks it.
import Derived.Test.YtepgponpnijonaaOpen
import Derived.Test.YtepgponpnijonaaPrint21
namespace Go.Proofs.Ytepgponpnijonaa.Print
open Go.RowKit Go.Proofs.YtepgponpnijonaaW.PrintWords Go.Proofs.YtepgponpnijonaaW.PrintLast Go.Proofs.YtepgponpnijonaaW.PrintMore
def BatchBackPure : Prop := ∀ (s0 : S24) (s1 : List Int) (s2 : Int), Wf24 s0 → (fun l_ : List Int => l_.length ≤ maxLen ∧ ∀ s_ ∈ l_, (fun n_ : Int => (Lit.int .u8 n_).wf = true) s_) s1 → (fun n_ : Int => (Lit.int .u16 n_).wf = true) s2 → ∃ k, lombardlaw18_BatchBack.f k s0.f0 s0.f1 s0.f2 s1 s2 = some true
end Go.Proofs.Ytepgponpnijonaa.Print
