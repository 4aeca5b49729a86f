/- The plain law of JournalPlays: bytes that come in are bytes, so the walk (which shows the answer itself) speaks of every input. -/
import Derived.Test.YtniadlnbjgodnaaStJournalPlays
namespace Go.Proofs.Ytniadlnbjgodnaa.Print
open Go.RowKit Go.Proofs.YtniadlnbjgodnaaW.PrintWords Go.Proofs.YtniadlnbjgodnaaW.PrintLast Go.Proofs.YtniadlnbjgodnaaW.PrintMore
set_option linter.unusedVariables false

theorem Pure.JournalPlays : JournalPlaysPure := by
  intro s0 s1 h0 h1
  unfold lombardlaw20_JournalPlays.f
  rw [if_pos]
  refine List.all_eq_true.2 (fun o ho => List.all_eq_true.2 (fun x hx => ?_))
  have h2 := h1.2 o ho
  unfold Wf40 at h2
  have h4 := h2.2.2.1.2 x hx
  have h3 : (IntKind.u8.min ≤ x) ∧ (x ≤ IntKind.u8.max) := by simpa [Lit.wf] using h4
  have e1 : IntKind.u8.min = 0 := by decide
  have e2 : IntKind.u8.max = 255 := by decide
  rw [e1, e2] at h3
  exact decide_eq_true (by omega)

end Go.Proofs.Ytniadlnbjgodnaa.Print
