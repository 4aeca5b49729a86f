/- Each account has a name, and that name is its own; no other number has one. For every number and every name. -/
import Derived.Test.YtmafmbcgjeecjaaStChartNames
import Derived.Test.YtmafmbcgjeecjaaPureChartPosts
namespace Go.Proofs.Ytmafmbcgjeecjaa.Print
open Go.RowKit Go.Proofs.YtmafmbcgjeecjaaW.PrintWords Go.Proofs.YtmafmbcgjeecjaaW.PrintLast Go.Proofs.YtmafmbcgjeecjaaW.PrintMore
set_option linter.unusedVariables false
set_option linter.unusedSimpArgs false

theorem acc_nm (n : Int) (h : 1 ≤ n ∧ n ≤ 7) : lombardref17_Account.g (nm n) = n := by
  have : n = 1 ∨ n = 2 ∨ n = 3 ∨ n = 4 ∨ n = 5 ∨ n = 6 ∨ n = 7 := by omega
  rcases this with rfl | rfl | rfl | rfl | rfl | rfl | rfl <;> simp [nm, lombardref17_Account.g]
theorem nm_acc (s : ByteArray) (h : lombardref17_Account.g s ≠ 0) : nm (lombardref17_Account.g s) = s := by
  revert h
  unfold lombardref17_Account.g
  split
  · intro _; subst_vars; rfl
  split
  · intro _; subst_vars; rfl
  split
  · intro _; subst_vars; rfl
  split
  · intro _; subst_vars; rfl
  split
  · intro _; subst_vars; rfl
  split
  · intro _; subst_vars; rfl
  split
  · intro _; subst_vars; rfl
  intro h; exact absurd rfl h
theorem j0_at (s : ByteArray) (k : Nat) : lombardlaw17_ChartNames.j0 (k + 1) s false = some true := by
  simp only [lombardlaw17_ChartNames.j0, Acc_at, Option.bind_some, Name_at]
  by_cases c : lombardref17_Account.g s = 0
  · simp [c]
  · simp [c, nm_acc s c]
theorem Pure.ChartNames : ChartNamesPure := by
  intro n s wf hs
  refine ⟨4, ?_⟩
  simp only [lombardlaw17_ChartNames.f, alive_at, Option.bind_some, if_true, Name_at, Acc_at]
  by_cases a : n ≥ 1 <;> by_cases b : n ≤ 7
  · have e : (nm n).toList ≠ [] := fun z => (nm_empty n).mp z ⟨a, b⟩
    simp [a, b, e, acc_nm n ⟨a, b⟩, j0_at]
  · have e : (nm n).toList = [] := (nm_empty n).mpr (by omega)
    simp [a, b, e, j0_at]
  · have e : (nm n).toList = [] := (nm_empty n).mpr (by omega)
    simp [a, e, j0_at]
  · have e : (nm n).toList = [] := (nm_empty n).mpr (by omega)
    simp [a, e, j0_at]

end Go.Proofs.Ytmafmbcgjeecjaa.Print
