/- Whether any lines may be, and their sums by accounts, are the document's; lines stay as they are. For every row of lines. -/
import Derived.Test.YtmafmbcgjeecjaaStChartNets
import Derived.Test.YtmafmbcgjeecjaaAid3
namespace Go.Proofs.Ytmafmbcgjeecjaa.Print
open Go.RowKit Go.Proofs.YtmafmbcgjeecjaaW.PrintWords Go.Proofs.YtmafmbcgjeecjaaW.PrintLast Go.Proofs.YtmafmbcgjeecjaaW.PrintMore
set_option linter.unusedVariables false
set_option linter.unusedSimpArgs false

theorem Pure.ChartNets : ChartNetsPure := by
  intro l wf
  refine ⟨3000000, ?_⟩
  unfold lombardlaw17_ChartNets.f
  rw [alive_at 2999997, Option.bind_some, if_pos rfl]
  by_cases c : (l.length : Int) > 300
  · rw [if_pos c]
  rw [if_neg c]
  have hl : l.length ≤ 300 := by omega
  have hwf := wf.2
  rw [To_at _ _ (by omega) (by omega), Option.bind_some, Net_at _ (by simp; omega) (amt45 hwf), Option.bind_some, rNet_at _ _ (by omega) (amt48 hwf) (by omega), Option.bind_some]
  have h7 := netf_len (l.map c45)
  rw [From_at _ _ (by omega) (by omega), Option.bind_some]
  have e1 : (conv (netf (l.map c45))).1 = (netf (l.map c45)).1.map c48 := rfl
  have e2 : (conv (netf (l.map c45))).2 = (netf (l.map c45)).2 := rfl
  rw [e1, e2, Same_at _ _ _ (by simp; omega) (by simp; omega), Option.bind_some]
  simp only [decide_true, if_true]
  rw [Check_at _ _ (by omega), Option.bind_some, rCheck_at _ _ (by omega), Option.bind_some]
  simp only [if_true]
  rw [From_at _ _ (by simp; omega) (by simp; omega), Option.bind_some, Same_at _ _ _ (by simp; omega) (by simp; omega), Option.bind_some, back48]
  simp

end Go.Proofs.Ytmafmbcgjeecjaa.Print
