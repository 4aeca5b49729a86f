/- The plain law of AllowOrders: Roll of changes in two parts, the second part first, is Roll of all of them as they stand. -/
import Derived.Test.YtgeeffnokedllaaStAllowOrders
namespace Go.Proofs.Ytgeeffnokedllaa.Print
open Go.RowKit Go.Proofs.YtgeeffnokedllaaW.PrintWords Go.Proofs.YtgeeffnokedllaaW.PrintLast Go.Proofs.YtgeeffnokedllaaW.PrintMore
set_option linter.unusedVariables false

theorem sums_append (key amt : S50 → Int) (a b : List S50) : allow_Change.sums key amt (a ++ b) = fun k => allow_Change.sums key amt a k + allow_Change.sums key amt b k := by
  funext k
  induction a with
  | nil => simp [allow_Change.sums]
  | cons x t ih => simp only [List.cons_append, allow_Change.sums, ih]; omega
theorem row_comm (a b : List S50) (o k : Int) : allow_Roll.row (a ++ b) o k = allow_Roll.row (b ++ a) o k := by
  have e : ∀ key amt, allow_Change.sums key amt (a ++ b) = allow_Change.sums key amt (b ++ a) := fun key amt => by
    rw [sums_append, sums_append]; funext k; omega
  unfold allow_Roll.row
  rw [e, e, e, e]
theorem g_comm (o0 o1 o2 : Int) (a b : List S50) : allow_Roll.g o0 o1 o2 (a ++ b) = allow_Roll.g o0 o1 o2 (b ++ a) := by
  have e1 : (a ++ b).length = (b ++ a).length := by simp; omega
  have e2 : (∀ x ∈ a ++ b, allow_Change.ok x) ↔ (∀ x ∈ b ++ a, allow_Change.ok x) := by
    simp only [List.mem_append]; exact ⟨fun h x hx => h x hx.symm, fun h x hx => h x hx.symm⟩
  unfold allow_Roll.g
  rw [e1]
  simp only [row_comm a b, e2]
theorem eqRow_self (a : Row6) : eqRow a a = true := by simp [eqRow]
theorem v_true (o0 o1 o2 : Int) (l : List S40) (k : Nat) : lombardlaw16_AllowOrders.v o0 o1 o2 l k = true := by
  have e : allow_Roll.g o0 o1 o2 ((l.drop k).map cv ++ (l.take k).map cv) = allow_Roll.g o0 o1 o2 (l.map cv) := by
    rw [g_comm, ← List.map_append, List.take_append_drop]
  unfold lombardlaw16_AllowOrders.v eqRows
  rw [e]
  simp [eqRow_self]
theorem Pure.AllowOrders : AllowOrdersPure := by
  intro s0 s1 s2 h0 h1 h2
  have hw := wf_u8 h2
  unfold lombardlaw16_AllowOrders.f
  rw [if_pos hw]
  by_cases hl : 500 < s1.length
  · rw [if_pos hl]
  · rw [if_neg hl, v_true]

end Go.Proofs.Ytgeeffnokedllaa.Print
