/- StageNext: the stage that any mark tells, and the state behind it, or the error, are the document's, for every state and mark. -/
import Derived.Test.YtjnhlglamiegbaaStStageNext
import Derived.Test.YtjnhlglamiegbaaAid
namespace Go.Proofs.Ytjnhlglamiegbaa.Print
open Go.RowKit Go.Proofs.YtjnhlglamiegbaaW.PrintWords Go.Proofs.YtjnhlglamiegbaaW.PrintLast Go.Proofs.YtjnhlglamiegbaaW.PrintMore

theorem Pure.StageNext : StageNextPure := by
  intro s0 s1 _ _
  refine ⟨20, ?_⟩
  simp [lombardlaw14_StageNext.f, alive_at, next_at, rnext_at, rworst_at, stage_Worst.f, worst]

end Go.Proofs.Ytjnhlglamiegbaa.Print
