/- StageRuns: the stages along any marks, or the error, are the document's, for every row of marks (up to 700: beyond that the law asks alive() alone). -/
import Derived.Test.YtjnhlglamiegbaaStStageRuns
import Derived.Test.YtjnhlglamiegbaaAid2
namespace Go.Proofs.Ytjnhlglamiegbaa.Print
open Go.RowKit Go.Proofs.YtjnhlglamiegbaaW.PrintWords Go.Proofs.YtjnhlglamiegbaaW.PrintLast Go.Proofs.YtjnhlglamiegbaaW.PrintMore

theorem Pure.StageRuns : StageRunsPure := by
  intro l _
  refine ⟨2000, ?_⟩
  unfold lombardlaw14_StageRuns.f
  rw [alive_any _ (by omega)]
  simp only [Option.bind_some, if_true]
  by_cases c : (l.length : Int) > 700
  · rw [if_pos c]
  · rw [if_neg c]
    have hl : l.length ≤ 700 := by omega
    rw [to_at l (by omega) _ (by omega)]
    simp only [Option.bind_some]
    rw [run_at _ (by simp; omega) _ (by simp; omega), mk_conv]
    simp only [Option.bind_some]
    rw [rrun_at _ (by omega) _ (by omega)]
    simp only [Option.bind_some]
    have := runAll_len (l.map mk25)
    rw [List.length_map] at this
    rw [ints_same _ (by omega) _ (by omega)]
    simp
end Go.Proofs.Ytjnhlglamiegbaa.Print
