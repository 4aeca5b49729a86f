/- The plain law of AllowRolls: what any changes make of any stages is the document's (both walks come to one function, allow_Roll.g). -/
import Derived.Test.YtgeeffnokedllaaStAllowRolls
namespace Go.Proofs.Ytgeeffnokedllaa.Print
open Go.RowKit Go.Proofs.YtgeeffnokedllaaW.PrintWords Go.Proofs.YtgeeffnokedllaaW.PrintLast Go.Proofs.YtgeeffnokedllaaW.PrintMore
set_option linter.unusedVariables false

theorem Pure.AllowRolls : AllowRollsPure := by
  intro s0 s1 h0 h1
  rfl

end Go.Proofs.Ytgeeffnokedllaa.Print
