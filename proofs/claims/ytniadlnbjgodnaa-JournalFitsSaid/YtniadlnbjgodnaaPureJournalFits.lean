/- The plain law of JournalFits: numbers that come in are numbers of their kinds, so the walk (which shows the answer itself) speaks of every input. -/
import Derived.Test.YtniadlnbjgodnaaStJournalFits
namespace Go.Proofs.Ytniadlnbjgodnaa.Print
open Go.RowKit Go.Proofs.YtniadlnbjgodnaaW.PrintWords Go.Proofs.YtniadlnbjgodnaaW.PrintLast Go.Proofs.YtniadlnbjgodnaaW.PrintMore
set_option linter.unusedVariables false

theorem Pure.fits_byte {x : Int} (h : (Lit.int .u8 x).wf = true) : 0 ≤ x ∧ x < 256 := by
  have h3 : (IntKind.u8.min ≤ x) ∧ (x ≤ IntKind.u8.max) := by simpa [Lit.wf] using h
  have e1 : IntKind.u8.min = 0 := by decide
  have e2 : IntKind.u8.max = 255 := by decide
  rw [e1, e2] at h3
  omega
theorem Pure.fits_two {x : Int} (h : (Lit.int .u16 x).wf = true) : 0 ≤ x ∧ x < 65536 := by
  have h3 : (IntKind.u16.min ≤ x) ∧ (x ≤ IntKind.u16.max) := by simpa [Lit.wf] using h
  have e1 : IntKind.u16.min = 0 := by decide
  have e2 : IntKind.u16.max = 65535 := by decide
  rw [e1, e2] at h3
  omega
theorem Pure.JournalFits : JournalFitsPure := by
  intro s0 s1 h0 h1
  unfold lombardlaw20_JournalFits.f
  rw [if_pos]
  simp only [Bool.and_eq_true]
  exact ⟨decide_eq_true (Pure.fits_byte h0), List.all_eq_true.2 (fun x hx => decide_eq_true (Pure.fits_two (h1.2 x hx)))⟩

end Go.Proofs.Ytniadlnbjgodnaa.Print
