/- What is posted may be, if it isn't nothing; posted as the negative it is nothing together. For every kind and amount. -/
import Derived.Test.YtmafmbcgjeecjaaStChartTwice
import Derived.Test.YtmafmbcgjeecjaaAid3
namespace Go.Proofs.Ytmafmbcgjeecjaa.Print
open Go.RowKit Go.Proofs.YtmafmbcgjeecjaaW.PrintWords Go.Proofs.YtmafmbcgjeecjaaW.PrintLast Go.Proofs.YtmafmbcgjeecjaaW.PrintMore
set_option linter.unusedVariables false
set_option linter.unusedSimpArgs false

theorem goS_zero (s : Int → Int) : ∀ (L : List Int) (acc : List S45), (∀ a ∈ L, s a = 0) → goS s L acc = (acc, 0) := by
  intro L
  induction L with
  | nil => intro acc _; rfl
  | cons a t ih =>
    intro acc h
    have h0 := h a List.mem_cons_self
    rw [goS, h0, if_pos (by unfold inr; omega), if_pos rfl]
    exact ih acc (fun b hb => h b (List.mem_cons_of_mem _ hb))
theorem sum_four (p q n a : Int) : sumA [⟨p, n⟩, ⟨q, -n⟩, ⟨p, -n⟩, ⟨q, n⟩] a = 0 := by
  unfold sumA chart_Net.amts
  by_cases h1 : p = a <;> by_cases h2 : q = a <;> simp [h1, h2] <;> omega
theorem on_in (k : Int) : 1 ≤ chart_Post.on k ∧ chart_Post.on k ≤ 7 := by unfold chart_Post.on; repeat' split <;> omega
theorem ag_in (k : Int) : 1 ≤ chart_Post.ag k ∧ chart_Post.ag k ≤ 7 := by unfold chart_Post.ag; repeat' split <;> omega
theorem Pure.ChartTwice : ChartTwicePure := by
  intro kd n w0 w1
  refine ⟨100, ?_⟩
  unfold lombardlaw17_ChartTwice.f
  rw [alive_at 97, Option.bind_some, if_pos rfl]
  by_cases c : chart_Post.bad kd n = true
  · simp [chart_Post.f, c]
  by_cases d : n = 0
  · subst d
    simp [chart_Post.f, c]
  have hb : -1125899906842624 ≤ n ∧ n ≤ 1125899906842624 := by
    unfold chart_Post.bad at c
    rw [decide_eq_true_iff] at c
    omega
  have hp : chart_Post.f kd n = some ([⟨chart_Post.on kd, n⟩, ⟨chart_Post.ag kd, -n⟩], 0) := by simp [chart_Post.f, c, d]
  have h1 := on_in kd
  have h2 := ag_in kd
  have hchk : chk [⟨chart_Post.on kd, n⟩, ⟨chart_Post.ag kd, -n⟩] = 0 := by
    unfold chk
    rw [if_neg (by simp), if_neg (by simp), chkGo, if_pos ⟨h1, hb.1, hb.2, d⟩, chkGo, if_pos ⟨h2, show -1125899906842624 ≤ -n by omega, show -n ≤ 1125899906842624 by omega, show -n ≠ 0 by omega⟩, chkGo, if_pos (show 0 + n + -n = 0 by omega)]
  rw [hp, Option.bind_some, if_pos rfl, if_neg d, w64 (by omega) (by omega)]
  have hm : chart_Post.f kd (-n) = some (if chart_Post.bad kd (-n) = true then ([], 2) else ([⟨chart_Post.on kd, -n⟩, ⟨chart_Post.ag kd, n⟩], 0)) := by
    unfold chart_Post.f
    rw [if_neg (show ¬ -n = 0 by omega), Int.neg_neg]
  rw [hm, Option.bind_some, Check_at _ _ (by omega), Option.bind_some, hchk, if_pos rfl, if_pos (by simp), if_pos (by simp)]
  have hr : (rd_T45 [⟨chart_Post.on kd, n⟩, ⟨chart_Post.ag kd, -n⟩] 0).f1 = n := rfl
  rw [hr]
  simp only [bne_self_eq_false]
  rw [lombardlaw17_ChartTwice.j0, if_neg (by decide)]
  by_cases e : chart_Post.bad kd (-n) = true
  · rw [if_pos e]; simp
  · rw [if_neg e, if_pos rfl, if_pos (by simp), Net_at _ (by simp) (by
      intro x hx
      simp at hx
      rcases hx with rfl | rfl | rfl | rfl <;> unfold inr <;> constructor <;> (dsimp only; omega)), Option.bind_some]
    have hok : okl ([⟨chart_Post.on kd, n⟩, ⟨chart_Post.ag kd, -n⟩] ++ [⟨chart_Post.on kd, -n⟩, ⟨chart_Post.ag kd, n⟩]) := by
      intro x hx
      simp at hx
      rcases hx with rfl | rfl | rfl | rfl <;> assumption
    have hz : netf ([⟨chart_Post.on kd, n⟩, ⟨chart_Post.ag kd, -n⟩] ++ [⟨chart_Post.on kd, -n⟩, ⟨chart_Post.ag kd, n⟩]) = ([], 0) := by
      unfold netf
      rw [if_pos hok]
      exact goS_zero _ _ _ (fun a _ => sum_four _ _ _ _)
    rw [hz, if_pos rfl]
    rfl

end Go.Proofs.Ytmafmbcgjeecjaa.Print
