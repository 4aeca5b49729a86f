/- Parts of flows that may be are the whole, each on its side; merged they are it; spread over the last day they have the same total. For every row of flows and every day. -/
import Derived.Test.YtpolkjmdkeengaaStFlowParts
import Derived.Test.YtpolkjmdkeengaaAid3
namespace Go.Proofs.Ytpolkjmdkeengaa.Print
open Go.RowKit Go.Proofs.YtpolkjmdkeengaaW.PrintWords Go.Proofs.YtpolkjmdkeengaaW.PrintLast Go.Proofs.YtpolkjmdkeengaaW.PrintMore
set_option linter.unusedVariables false
set_option linter.unusedSimpArgs false

theorem parts_filter (d : Int) : ∀ (l : List S39) (e : Int), Asc e l → l.filter (fun x => decide (x.f0 ≤ d)) ++ l.filter (fun x => !decide (x.f0 ≤ d)) = l := by
  intro l
  induction l with
  | nil => intro e h; rfl
  | cons x t ih =>
    intro e h
    by_cases c : x.f0 ≤ d
    · rw [List.filter_cons, List.filter_cons, if_pos (by simpa using c), if_neg (by simp [c]), List.cons_append, ih _ h.2]
    · have hall : ∀ y ∈ x :: t, ¬ y.f0 ≤ d := fun y hy => by
        rcases List.mem_cons.1 hy with rfl | hy
        · exact c
        · have := h.2.mem y hy; omega
      rw [List.filter_eq_nil_iff.2 (fun y hy => by simpa using hall y hy), List.nil_append, List.filter_eq_self.2 (fun y hy => by simpa using hall y hy)]
theorem asc_filter (f : S39 → Bool) : ∀ (l : List S39) (e : Int), Asc e l → Asc e (l.filter f) := by
  intro l
  induction l with
  | nil => intro e h; exact h
  | cons x t ih =>
    intro e h
    rw [List.filter_cons]
    split
    · exact ⟨h.1, ih _ h.2⟩
    · exact ih _ (h.2.mono (by have := h.1; omega))
theorem pE_filter {l : List S39} (h : pE l = 0) (f : S39 → Bool) : pE (l.filter f) = 0 := by
  obtain ⟨h1, h2, h3, h4⟩ := pE_ok h
  exact pE_mk (Nat.le_trans (List.length_filter_le _ _) h1) (asc_filter f l 0 h2) (fun x hx => h3 x (List.mem_filter.1 hx).1) (fun x hx => h4 x (List.mem_filter.1 hx).1)
theorem parts_l0 (l0 : List S40) (d : Int) (p q : List S39) (hp : ∀ x ∈ p, x.f0 ≤ d) (hpl : p.length ≤ 1000) (R : Option Bool) (hR : ∀ k, 2000 < k → ((flow_Merge.f p q).bind fun bt328 => ((lombardlaw07_to.f k l0).bind fun t332 => ((flow_Merge.f t332 ([] : List (S39))).bind fun bt335 => (if bt328.2 = 0 then (if bt335.2 = 0 then ((lombardlaw07_from.f k bt328.1).bind fun t339 => ((lombardlaw07_from.f k bt335.1).bind fun t342 => ((lombardref07_Same.f k t339 t342).bind fun t345 => (lombardlaw07_FlowParts.j2 k l0 (!t345))))) else (lombardlaw07_FlowParts.j2 k l0 true)) else (lombardlaw07_FlowParts.j2 k l0 true))))) = R) : ∀ n (i k : Nat), p.length - i = n → i ≤ p.length → n + 2002 < k →
    lombardlaw07_FlowParts.l0 k l0 d p q p (p.length : Int) (i : Int) = R := by
  intro n
  induction n with
  | zero =>
    intro i k hn hi hk
    obtain ⟨k, rfl⟩ : ∃ m, k = m + 1 := ⟨k - 1, by omega⟩
    obtain rfl : i = p.length := by omega
    simp only [lombardlaw07_FlowParts.l0]
    rw [if_neg (by omega)]
    exact hR k (by omega)
  | succ n ih =>
    intro i k hn hi hk
    obtain ⟨k, rfl⟩ : ∃ m, k = m + 1 := ⟨k - 1, by omega⟩
    have hlt : i < p.length := by omega
    have ew : wrap64 ((i : Int) + 1) = ((i + 1 : Nat) : Int) := by unfold wrap64; omega
    simp only [lombardlaw07_FlowParts.l0]
    rw [if_pos (by omega), if_pos (by omega), if_pos (by omega), rd39 p i hlt, if_neg (by have := hp _ (List.getElem_mem hlt); omega), ew]
    exact ih (i + 1) k (by omega) (by omega) (by omega)
theorem Pure.FlowParts : FlowPartsPure := by
  intro l0 d w0 wd
  refine ⟨100000, ?_⟩
  unfold lombardlaw07_FlowParts.f
  rw [show (100000 : Nat) = 99996 + 4 from rfl, alive_at, Option.bind_some, if_pos rfl]
  have e : ∀ b : Bool, b = true → lombardlaw07_FlowParts.j0 (99996 + 4) l0 d b = some true := fun b hb => by
    subst hb; rw [lombardlaw07_FlowParts.j0, if_pos rfl]
  by_cases c0 : (l0.length : Int) > 200
  · rw [if_pos c0]; exact e _ rfl
  rw [if_neg c0, to_at _ _ (by omega) (by omega), Option.bind_some, check_at, Option.bind_some]
  by_cases hE : pE (l0.map c39) = 0
  · rw [hE]
    show lombardlaw07_FlowParts.j0 (99996 + 4) l0 d false = some true
    rw [lombardlaw07_FlowParts.j0, if_neg (by decide), to_at _ _ (by omega) (by omega), Option.bind_some]
    have hl : (l0.map c39).length ≤ 200 := by simp; omega
    have h40 : (l0.map c39).map c40 = l0 := c4039 l0
    have to0 : ∀ k, 1000 < k → lombardlaw07_to.f k l0 = some (l0.map c39) := fun k hk => to_at _ _ (by omega) (by omega)
    generalize l0.map c39 = a at hE hl h40 to0 ⊢
    obtain ⟨n1, n2, n3, n4⟩ := pE_ok hE
    rw [parted_at _ _ _ (by omega) (by omega), Option.bind_some]
    have hpq := parts_filter d a 0 n2
    have hp := pE_filter hE (fun x => decide (x.f0 ≤ d))
    have hq := pE_filter hE (fun x => !decide (x.f0 ≤ d))
    have hpd : ∀ x ∈ a.filter (fun x => decide (x.f0 ≤ d)), x.f0 ≤ d := fun x hx => by simpa using (List.mem_filter.1 hx).2
    have hqd : ∀ x ∈ a.filter (fun x => !decide (x.f0 ≤ d)), d < x.f0 := fun x hx => by have := (List.mem_filter.1 hx).2; simp at this; omega
    generalize a.filter (fun x => decide (x.f0 ≤ d)) = p at hpq hp hpd ⊢
    generalize a.filter (fun x => !decide (x.f0 ≤ d)) = q at hpq hq hqd ⊢
    have hlen : p.length + q.length = a.length := by rw [← hpq, List.length_append]
    simp only
    rw [from_at _ _ (by omega) (by omega), Option.bind_some, from_at _ _ (by omega) (by omega), Option.bind_some, if_pos (by simp; omega), ← List.map_append, hpq, h40, Same_at _ _ _ (by omega) (by omega), Option.bind_some]
    simp only [decide_true, if_true]
    refine parts_l0 l0 d p q hpd (by omega) _ (fun k hk => ?_) p.length 0 _ (by omega) (Nat.zero_le _) (by omega)
    have hz : Zip (p.length + q.length) p q [] = Zip (a.length + ([] : List S39).length) a [] [] := by
      have h1 := zip_parts (p.length + q.length) p q [] (Nat.le_refl _) (fun x hx y hy => by have := hpd x hx; have := hqd y hy; omega)
      rw [h1, hpq, hlen]; rfl
    obtain ⟨k1, k2⟩ := zip_nil_ok (a.length + ([] : List S39).length) a [] (by simp) n3
    have g1 : flow_Merge.f p q = some ((Zip (a.length + ([] : List S39).length) a [] []).1, 0) := by
      show some (G p q) = _
      rw [G_of hp hq (by rw [hz]; exact k1) (by rw [hz]; exact Nat.le_trans k2 (by simp; omega)), hz]
    have g2 : flow_Merge.f a [] = some ((Zip (a.length + ([] : List S39).length) a [] []).1, 0) := by
      show some (G a []) = _
      rw [G_of hE rfl k1 (Nat.le_trans k2 (by simp; omega))]
    have k3 : (Zip (a.length + ([] : List S39).length) a [] []).1.length ≤ 200 := Nat.le_trans k2 (by simp; omega)
    generalize (Zip (a.length + ([] : List S39).length) a [] []).1 = z at g1 g2 k3
    rw [g1, Option.bind_some, to0 _ (by omega), Option.bind_some, g2, Option.bind_some]
    simp only [if_true]
    rw [from_at _ _ (by omega) (by omega), Option.bind_some, Option.bind_some, Same_at _ _ _ (by simp; omega) (by simp; omega), Option.bind_some]
    simp only [decide_true, Bool.not_true]
    obtain ⟨k, rfl⟩ : ∃ m, k = m + 1 := ⟨k - 1, by omega⟩
    have hs := amt_sum n3
    have ht := total_ok n3 (by omega)
    have f1 : a.filter (fun x => decide (x.f0 ≤ 3652059)) = a := List.filter_eq_self.2 (fun y hy => by simpa using n4 y hy)
    have f2 : a.filter (fun x => !decide (x.f0 ≤ 3652059)) = [] := List.filter_eq_nil_iff.2 (fun y hy => by simpa using n4 y hy)
    have hsp : flow_Spread.f a [3652059] = if May (a.map (·.f1)).sum = true then some ([(a.map (·.f1)).sum], 0) else some ([], 3) := by
      unfold flow_Spread.f flow_Spread.g
      rw [if_neg (show ¬ flow_Merge.e a ≠ 0 by simpa using hE), if_neg (by decide), if_neg (by decide), flow_Spread.go, f1, f2, ht, Option.bind_some, if_pos rfl, flow_Spread.go, Option.bind_some]
      simp only [if_true, List.nil_append, List.length_nil, Nat.lt_irrefl, if_false, List.all_cons, List.all_nil, Bool.and_true]
    rw [lombardlaw07_FlowParts.j2, if_neg (by decide), to0 _ (by omega), Option.bind_some, hsp]
    have hm : lombardref01_May.f (a.map (·.f1)).sum = some (May (a.map (·.f1)).sum) := lombardref07_Merge.may_eq _
    by_cases c : May (a.map (·.f1)).sum = true
    · rw [if_pos c, Option.bind_some, Option.bind_some, ht, Option.bind_some]
      simp [rd]
    · rw [if_neg c, Option.bind_some, Option.bind_some, ht, Option.bind_some]
      simp only [if_true]
      rw [hm, Option.bind_some, if_neg c]
  · exact e _ (by simpa using hE)

end Go.Proofs.Ytpolkjmdkeengaa.Print
