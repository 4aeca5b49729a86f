/- StageCures: from any state six marks that tell nothing lead to the first stage, and not fewer than it takes, for every state. -/
import Derived.Test.YtjnhlglamiegbaaStStageCures
import Derived.Test.YtjnhlglamiegbaaAid
namespace Go.Proofs.Ytjnhlglamiegbaa.Print
open Go.RowKit Go.Proofs.YtjnhlglamiegbaaW.PrintWords Go.Proofs.YtjnhlglamiegbaaW.PrintLast Go.Proofs.YtjnhlglamiegbaaW.PrintMore

theorem alive_30 : lombardlaw14_alive.f 30 = some true := by decide +kernel
theorem Pure.StageCures : StageCuresPure := by
  intro s0 _
  obtain ⟨s, g⟩ := s0
  refine ⟨30, ?_⟩
  by_cases hm : may s g 0 0
  · obtain ⟨-, -, -, -, h5, h6, h7, h8, h9⟩ := hm
    have hs : s = 1 ∨ s = 2 ∨ s = 3 := by omega
    have hg : g = 0 ∨ g = 1 ∨ g = 2 := by omega
    rcases hs with rfl | rfl | rfl <;> rcases hg with rfl | rfl | rfl <;> decide +kernel
  · simp only [lombardlaw14_StageCures.f, alive_30, Option.bind_some, if_true]
    by_cases c : s = 1
    · simp [lombardlaw14_StageCures.l0, c]
    · have e : nextS s g 0 0 false = (0, 0, 2) := by unfold nextS; rw [if_neg hm]
      simp [lombardlaw14_StageCures.l0, c, next_at, rnext_at, e]
end Go.Proofs.Ytjnhlglamiegbaa.Print
