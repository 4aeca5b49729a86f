/- The plain law of AllowParts: changes in two parts, the second one from where the first one ended, end as all at once (the walk proves each round's tests by allow_Roll's own sums). -/
import Derived.Test.YtgeeffnokedllaaStAllowParts
namespace Go.Proofs.Ytgeeffnokedllaa.Print
open Go.RowKit Go.Proofs.YtgeeffnokedllaaW.PrintWords Go.Proofs.YtgeeffnokedllaaW.PrintLast Go.Proofs.YtgeeffnokedllaaW.PrintMore
set_option linter.unusedVariables false

theorem Pure.AllowParts : AllowPartsPure := by
  intro s0 s1 s2 h0 h1 h2
  have hw := wf_u8 h2
  unfold lombardlaw16_AllowParts.f
  rw [if_pos hw]

end Go.Proofs.Ytgeeffnokedllaa.Print
