/- The plain law of CloseEmpty: the walk shows the answer itself. -/
import Derived.Test.YtpcllhhbaockfaaStCloseEmpty
namespace Go.Proofs.Ytpcllhhbaockfaa.Print
open Go.RowKit Go.Proofs.YtpcllhhbaockfaaW.PrintWords Go.Proofs.YtpcllhhbaockfaaW.PrintLast Go.Proofs.YtpcllhhbaockfaaW.PrintMore
set_option linter.unusedVariables false

theorem Pure.CloseEmpty : CloseEmptyPure := by
  intro s0 h0
  rfl

end Go.Proofs.Ytpcllhhbaockfaa.Print
