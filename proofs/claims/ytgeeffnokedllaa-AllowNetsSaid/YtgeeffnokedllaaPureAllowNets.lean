/- The plain law of AllowNets: numbers of an int64 are all that the walk asks (both nets come to allow_Net.g; a row ties for the one as for the other). -/
import Derived.Test.YtgeeffnokedllaaStAllowNets
namespace Go.Proofs.Ytgeeffnokedllaa.Print
open Go.RowKit Go.Proofs.YtgeeffnokedllaaW.PrintWords Go.Proofs.YtgeeffnokedllaaW.PrintLast Go.Proofs.YtgeeffnokedllaaW.PrintMore
set_option linter.unusedVariables false

theorem inr_of_wf {x : S33} (h : Wf33 x) : Row6.inr ⟨x.f0, x.f1, x.f2, x.f3, x.f4, x.f5⟩ := by
  obtain ⟨h0, h1, h2, h3, h4, h5⟩ := h
  exact ⟨wf_i64 h0, wf_i64 h1, wf_i64 h2, wf_i64 h3, wf_i64 h4, wf_i64 h5⟩
theorem Pure.AllowNets : AllowNetsPure := by
  intro s0 h0
  obtain ⟨h1, h2, h3⟩ := h0
  unfold lombardlaw16_AllowNets.f
  rw [if_pos ⟨inr_of_wf h1, inr_of_wf h2, inr_of_wf h3⟩]

end Go.Proofs.Ytgeeffnokedllaa.Print
