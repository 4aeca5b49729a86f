/- The plain law of CloseStays: the walk shows the answer itself. -/
import Derived.Test.YtpcllhhbaockfaaStCloseStays
namespace Go.Proofs.Ytpcllhhbaockfaa.Print
open Go.RowKit Go.Proofs.YtpcllhhbaockfaaW.PrintWords Go.Proofs.YtpcllhhbaockfaaW.PrintLast Go.Proofs.YtpcllhhbaockfaaW.PrintMore
set_option linter.unusedVariables false

theorem Pure.CloseStays : CloseStaysPure := by
  intro s0 h0
  rfl

end Go.Proofs.Ytpcllhhbaockfaa.Print
