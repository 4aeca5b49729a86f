-- written by this session's program wip/hybrid.py over the kit's printer, and by hand. Not trusted: Lean checks it.
import Derived.Test.YtgeeffnokedllaaOpen
import Derived.Test.YtgeeffnokedllaaPrint23
namespace Go.Proofs.Ytgeeffnokedllaa.Print
open Go.RowKit Go.Proofs.YtgeeffnokedllaaW.PrintWords Go.Proofs.YtgeeffnokedllaaW.PrintLast Go.Proofs.YtgeeffnokedllaaW.PrintMore
def AllowNetsPure : Prop := ∀ (s0 : S34), Wf34 s0 → lombardlaw16_AllowNets.f s0.f0.f0 s0.f0.f1 s0.f0.f2 s0.f0.f3 s0.f0.f4 s0.f0.f5 s0.f1.f0 s0.f1.f1 s0.f1.f2 s0.f1.f3 s0.f1.f4 s0.f1.f5 s0.f2.f0 s0.f2.f1 s0.f2.f2 s0.f2.f3 s0.f2.f4 s0.f2.f5 = some true
end Go.Proofs.Ytgeeffnokedllaa.Print
