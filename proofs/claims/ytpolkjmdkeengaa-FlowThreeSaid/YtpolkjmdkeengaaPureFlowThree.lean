/- Three rows of flows, merged from the left or from the right, are the same. For every three rows of flows. -/
import Derived.Test.YtpolkjmdkeengaaStFlowThree
import Derived.Test.YtpolkjmdkeengaaAid3
namespace Go.Proofs.Ytpolkjmdkeengaa.Print
open Go.RowKit Go.Proofs.YtpolkjmdkeengaaW.PrintWords Go.Proofs.YtpolkjmdkeengaaW.PrintLast Go.Proofs.YtpolkjmdkeengaaW.PrintMore
set_option linter.unusedVariables false
set_option linter.unusedSimpArgs false

theorem Pure.FlowThree : FlowThreePure := by
  intro l0 l1 l2 w0 w1 w2
  refine ⟨100000, ?_⟩
  unfold lombardlaw07_FlowThree.f
  rw [show (100000 : Nat) = 99996 + 4 from rfl, alive_at, Option.bind_some, if_pos rfl]
  have e : ∀ b : Bool, b = true → lombardlaw07_FlowThree.j0 (99996 + 4) l0 l1 l2 b = some true := fun b hb => by
    subst hb; rw [lombardlaw07_FlowThree.j0, if_pos rfl]
  by_cases c0 : (l0.length : Int) > 100
  · rw [if_pos c0]; exact e _ rfl
  rw [if_neg c0]
  by_cases c1 : (l1.length : Int) > 100
  · rw [if_pos c1]; exact e _ rfl
  rw [if_neg c1]
  by_cases c2 : (l2.length : Int) > 100
  · exact e _ (decide_eq_true c2)
  rw [decide_eq_false c2]
  have t0 : ∀ k, 1000 < k → lombardlaw07_to.f k l0 = some (l0.map c39) := fun k hk => to_at _ _ (by omega) (by omega)
  have t1 : ∀ k, 1000 < k → lombardlaw07_to.f k l1 = some (l1.map c39) := fun k hk => to_at _ _ (by omega) (by omega)
  have t2 : ∀ k, 1000 < k → lombardlaw07_to.f k l2 = some (l2.map c39) := fun k hk => to_at _ _ (by omega) (by omega)
  have mg : ∀ a b, flow_Merge.f a b = some (G a b) := fun _ _ => rfl
  rw [lombardlaw07_FlowThree.j0, if_neg (by decide), t0 (99996 + 3) (by omega), t1 (99996 + 3) (by omega), t2 (99996 + 3) (by omega)]
  simp only [Option.bind_some, mg]
  have e1 : ∀ a b (t : Bool), t = true → lombardlaw07_FlowThree.j1 99999 l0 l2 a b t = some true := fun a b t hb => by
    subst hb; rw [lombardlaw07_FlowThree.j1, if_pos rfl]
  generalize l0.map c39 = a at t0 ⊢
  generalize l1.map c39 = b at t1 ⊢
  generalize l2.map c39 = c at t2 ⊢
  by_cases h1 : (G a b).2 = 0
  · rw [if_pos h1]
    by_cases h2 : (G b c).2 = 0
    · rw [show ((G b c).2 != 0) = false by simpa using h2]
      rw [lombardlaw07_FlowThree.j1, if_neg (by decide), t0 _ (by omega), t2 _ (by omega)]
      simp only [Option.bind_some, mg]
      have e2 : ∀ u v (t : Bool), t = true → lombardlaw07_FlowThree.j2 99998 u v t = some true := fun u v t hb => by
        subst hb; rw [lombardlaw07_FlowThree.j2, if_pos rfl]
      by_cases h3 : (G (G a b).1 c).2 = 0
      · rw [if_pos h3]
        by_cases h4 : (G a (G b c).1).2 = 0
        · rw [show ((G a (G b c).1).2 != 0) = false by simpa using h4]
          obtain ⟨_, _, _, _, _, o1, _, _, _⟩ := G_spec h1
          obtain ⟨_, _, _, _, _, o2, _, _, _⟩ := G_spec h2
          obtain ⟨_, _, _, s3, z3, o3, _, _, n3⟩ := G_spec h3
          obtain ⟨_, _, _, s4, z4, o4, _, _, n4⟩ := G_spec h4
          have hx : (G (G a b).1 c).1 = (G a (G b c).1).1 := asc_ext s3 s4 (fun x hx => (z3 x hx).1) (fun x hx => (z4 x hx).1) (fun d => by rw [o3, o4, o1, o2]; omega)
          rw [lombardlaw07_FlowThree.j2, if_neg (by decide), from_at _ _ (by omega) (by omega), Option.bind_some, from_at _ _ (by omega) (by omega), Option.bind_some, hx, Same_at _ _ _ (by simp; omega) (by simp; omega)]
          simp
        · rw [show ((G a (G b c).1).2 != 0) = true by simpa using h4]
          exact e2 _ _ _ rfl
      · rw [if_neg h3]; exact e2 _ _ _ rfl
    · rw [show ((G b c).2 != 0) = true by simpa using h2]
      exact e1 _ _ _ rfl
  · rw [if_neg h1]; exact e1 _ _ _ rfl

end Go.Proofs.Ytpolkjmdkeengaa.Print
