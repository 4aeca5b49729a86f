/- Merge goes both ways; its total is both totals; none of 0 is left; with nothing it is the flows themselves. For every two rows of flows. -/
import Derived.Test.YtpolkjmdkeengaaStFlowBoth
import Derived.Test.YtpolkjmdkeengaaAid3
namespace Go.Proofs.Ytpolkjmdkeengaa.Print
open Go.RowKit Go.Proofs.YtpolkjmdkeengaaW.PrintWords Go.Proofs.YtpolkjmdkeengaaW.PrintLast Go.Proofs.YtpolkjmdkeengaaW.PrintMore
set_option linter.unusedVariables false
set_option linter.unusedSimpArgs false

theorem both_l0 (x : List S39) (hx : pE x = 0) (hz : ∀ y ∈ x, y.f1 ≠ 0 ∧ May y.f1 = true) (s t u : Int) (hu : u = s + t) (hs : inr u) : ∀ n (i k : Nat), x.length - i = n → i ≤ x.length → n + 1000 < k →
    lombardlaw07_FlowBoth.l0 k x s t u 0 x (x.length : Int) (i : Int) = some true := by
  have hl := (pE_ok hx).1
  intro n
  induction n with
  | zero =>
    intro i k hn hi hk
    obtain ⟨k, rfl⟩ : ∃ m, k = m + 1 := ⟨k - 1, by omega⟩
    obtain rfl : i = x.length := by omega
    simp only [lombardlaw07_FlowBoth.l0]
    rw [if_neg (by omega)]
    have mg : ∀ a b, flow_Merge.f a b = some (G a b) := fun _ _ => rfl
    have hw : u = wrap64 (s + t) := by rw [← hu, w64 hs.1 hs.2]
    simp only [mg, Option.bind_some, G_nil hx hz, if_true, check_at, hx, from_at k x (by omega) (by omega), Same_at k (x.map c40) (x.map c40) (by simp; omega) (by simp; omega), decide_true]
    rw [if_pos hw]
  | succ n ih =>
    intro i k hn hi hk
    obtain ⟨k, rfl⟩ : ∃ m, k = m + 1 := ⟨k - 1, by omega⟩
    have hlt : i < x.length := by omega
    have ew : wrap64 ((i : Int) + 1) = ((i + 1 : Nat) : Int) := by unfold wrap64; omega
    simp only [lombardlaw07_FlowBoth.l0]
    rw [if_pos (by omega), if_pos (by omega), if_pos (by omega), rd39 x i hlt, if_neg (hz _ (List.getElem_mem hlt)).1, ew]
    exact ih (i + 1) k (by omega) (by omega) (by omega)
theorem Pure.FlowBoth : FlowBothPure := by
  intro l0 l1 w0 w1
  refine ⟨100000, ?_⟩
  unfold lombardlaw07_FlowBoth.f
  rw [show (100000 : Nat) = 99996 + 4 from rfl, alive_at, Option.bind_some, if_pos rfl]
  have e : ∀ b : Bool, b = true → lombardlaw07_FlowBoth.j0 (99996 + 4) l0 l1 b = some true := fun b hb => by
    subst hb; rw [lombardlaw07_FlowBoth.j0, if_pos rfl]
  by_cases c0 : (l0.length : Int) > 200
  · rw [if_pos c0]; exact e _ rfl
  rw [if_neg c0]
  by_cases c1 : (l1.length : Int) > 200
  · exact e _ (decide_eq_true c1)
  rw [decide_eq_false c1]
  have hla : (l0.map c39).length ≤ 200 := by simp; omega
  have hlb : (l1.map c39).length ≤ 200 := by simp; omega
  have to0 : ∀ k, 1000 < k → lombardlaw07_to.f k l0 = some (l0.map c39) := fun k hk => to_at _ _ (by omega) (by omega)
  have to1 : ∀ k, 1000 < k → lombardlaw07_to.f k l1 = some (l1.map c39) := fun k hk => to_at _ _ (by omega) (by omega)
  have mg : ∀ a b, flow_Merge.f a b = some (G a b) := fun _ _ => rfl
  rw [lombardlaw07_FlowBoth.j0, if_neg (by decide), to0 (99996 + 3) (by omega), to1 (99996 + 3) (by omega)]
  simp only [Option.bind_some, mg]
  generalize l0.map c39 = a at hla to0 ⊢
  generalize l1.map c39 = b at hlb to1 ⊢
  obtain ⟨s1, s2⟩ := G_swap a b
  have hn := G_len a b
  have hb2 : (((G a b).2 == 0) != ((G b a).2 == 0)) = false := by
    by_cases h : (G a b).2 = 0
    · have h' := s2.1 h; simp [h, h']
    · have h' : ¬ (G b a).2 = 0 := fun z => h (s2.2 z); rw [beq_eq_false_iff_ne.2 h, beq_eq_false_iff_ne.2 h']; rfl
  rw [hb2, if_neg (by decide), ← s1, from_at _ _ (by omega) (by omega), Option.bind_some, Option.bind_some, Same_at _ _ _ (by simp; omega) (by simp; omega), Option.bind_some]
  simp only [decide_true, Bool.not_true]
  rw [lombardlaw07_FlowBoth.j1, if_neg (by decide)]
  by_cases h : (G a b).2 = 0
  · rw [if_pos h, to0 _ (by omega), Option.bind_some]
    obtain ⟨ea, eb, er, r1, r2, _, r4, _, _⟩ := G_spec h
    obtain ⟨na, _, ma, _⟩ := pE_ok ea
    obtain ⟨nb, _, mb, _⟩ := pE_ok eb
    obtain ⟨nr, _, mr, _⟩ := pE_ok er
    rw [total_ok ma (by omega), Option.bind_some, to1 _ (by omega), Option.bind_some, total_ok mb (by omega), Option.bind_some, total_ok mr (by omega), Option.bind_some]
    have hsum := amt_sum mr
    exact both_l0 _ er r2 _ _ _ r4 (by unfold inr; omega) _ 0 _ rfl (Nat.zero_le _) (by omega)
  · rw [if_neg h, G_err h]
    rfl

end Go.Proofs.Ytpolkjmdkeengaa.Print
