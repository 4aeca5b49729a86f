/- The plain law of AllowCloses: if the stages begin with what all loans had, they end with what all have; nothing moves, where nothing changed (the walk proves each round's tests by allow_Roll's own sums). -/
import Derived.Test.YtgeeffnokedllaaStAllowCloses
namespace Go.Proofs.Ytgeeffnokedllaa.Print
open Go.RowKit Go.Proofs.YtgeeffnokedllaaW.PrintWords Go.Proofs.YtgeeffnokedllaaW.PrintLast Go.Proofs.YtgeeffnokedllaaW.PrintMore
set_option linter.unusedVariables false

theorem Pure.AllowCloses : AllowClosesPure := by
  intro s0 h0
  rfl

end Go.Proofs.Ytgeeffnokedllaa.Print
