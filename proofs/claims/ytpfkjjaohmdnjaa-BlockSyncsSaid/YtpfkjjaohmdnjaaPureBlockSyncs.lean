/- The plain law of BlockSyncs: the walk itself keeps what each block should be beside the store's own state, and shows that each read answers it. -/
import Derived.Test.YtpfkjjaohmdnjaaStBlockSyncs
namespace Go.Proofs.Ytpfkjjaohmdnjaa.Print
open Go.RowKit Go.Proofs.YtpfkjjaohmdnjaaW.PrintWords Go.Proofs.YtpfkjjaohmdnjaaW.PrintLast Go.Proofs.YtpfkjjaohmdnjaaW.PrintMore
set_option linter.unusedVariables false

theorem Pure.BlockSyncs : BlockSyncsPure := by
  intro s0 h0
  rfl

end Go.Proofs.Ytpfkjjaohmdnjaa.Print
