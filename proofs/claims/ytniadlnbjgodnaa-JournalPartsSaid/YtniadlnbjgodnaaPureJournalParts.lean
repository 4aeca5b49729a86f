/- The plain law of JournalParts: bytes that come in are bytes, so the walk (which shows the answer itself) speaks of every input. -/
import Derived.Test.YtniadlnbjgodnaaStJournalParts
namespace Go.Proofs.Ytniadlnbjgodnaa.Print
open Go.RowKit Go.Proofs.YtniadlnbjgodnaaW.PrintWords Go.Proofs.YtniadlnbjgodnaaW.PrintLast Go.Proofs.YtniadlnbjgodnaaW.PrintMore
set_option linter.unusedVariables false

theorem Pure.parts_byte {x : Int} (h : (Lit.int .u8 x).wf = true) : 0 ≤ x ∧ x < 256 := by
  have h3 : (IntKind.u8.min ≤ x) ∧ (x ≤ IntKind.u8.max) := by simpa [Lit.wf] using h
  have e1 : IntKind.u8.min = 0 := by decide
  have e2 : IntKind.u8.max = 255 := by decide
  rw [e1, e2] at h3
  omega
theorem Pure.JournalParts : JournalPartsPure := by
  intro s0 h0
  unfold lombardlaw20_JournalParts.f
  obtain ⟨h1, h2, h3⟩ := h0
  rw [if_pos]
  simp only [Bool.and_eq_true]
  exact ⟨List.all_eq_true.2 (fun x hx => decide_eq_true (Pure.parts_byte (h1.2 x hx))), List.all_eq_true.2 (fun x hx => decide_eq_true (Pure.parts_byte (h2.2 x hx))), decide_eq_true (Pure.parts_byte (by first | exact h3 | exact h3.1))⟩

end Go.Proofs.Ytniadlnbjgodnaa.Print
