/- The plain law of AllowTies: each row ties, and so does their net; all that came in went out of another one (the walk proves each round's tests by allow_Roll's own sums). -/
import Derived.Test.YtgeeffnokedllaaStAllowTies
namespace Go.Proofs.Ytgeeffnokedllaa.Print
open Go.RowKit Go.Proofs.YtgeeffnokedllaaW.PrintWords Go.Proofs.YtgeeffnokedllaaW.PrintLast Go.Proofs.YtgeeffnokedllaaW.PrintMore
set_option linter.unusedVariables false

theorem Pure.AllowTies : AllowTiesPure := by
  intro s0 s1 h0 h1
  rfl

end Go.Proofs.Ytgeeffnokedllaa.Print
