/- The plain law of BlockLasts: the walk itself keeps what each block should be beside the store's own state, and shows that each read answers it. -/
import Derived.Test.YtpfkjjaohmdnjaaStBlockLasts
namespace Go.Proofs.Ytpfkjjaohmdnjaa.Print
open Go.RowKit Go.Proofs.YtpfkjjaohmdnjaaW.PrintWords Go.Proofs.YtpfkjjaohmdnjaaW.PrintLast Go.Proofs.YtpfkjjaohmdnjaaW.PrintMore
set_option linter.unusedVariables false

theorem Pure.BlockLasts : BlockLastsPure := by
  intro s0 s1 h0 h1
  rfl

end Go.Proofs.Ytpfkjjaohmdnjaa.Print
