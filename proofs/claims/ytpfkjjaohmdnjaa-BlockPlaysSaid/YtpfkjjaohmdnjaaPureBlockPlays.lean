/- The plain law of BlockPlays: through any steps what all blocks are is what the document says (the walk keeps both stores in one state). -/
import Derived.Test.YtpfkjjaohmdnjaaStBlockPlays
namespace Go.Proofs.Ytpfkjjaohmdnjaa.Print
open Go.RowKit Go.Proofs.YtpfkjjaohmdnjaaW.PrintWords Go.Proofs.YtpfkjjaohmdnjaaW.PrintLast Go.Proofs.YtpfkjjaohmdnjaaW.PrintMore
set_option linter.unusedVariables false

theorem Pure.BlockPlays : BlockPlaysPure := by
  intro s0 s1 h0 h1
  rfl

end Go.Proofs.Ytpfkjjaohmdnjaa.Print
