import Derived.Test.YtpolkjmdkeengaaAid2
namespace Go.Proofs.Ytpolkjmdkeengaa.Print
open Go.RowKit Go.Proofs.YtpolkjmdkeengaaW.PrintWords Go.Proofs.YtpolkjmdkeengaaW.PrintLast Go.Proofs.YtpolkjmdkeengaaW.PrintMore
set_option linter.unusedVariables false
set_option linter.unusedSimpArgs false

abbrev G := flow_Merge.g
theorem pE_ok {l : List S39} (h : pE l = 0) : l.length ≤ 600 ∧ Asc 0 l ∧ Amt l ∧ ∀ x ∈ l, x.f0 ≤ 3652059 := by
  unfold pE flow_Merge.e at h
  by_cases c : 600 < l.length
  · rw [if_pos c] at h; cases h
  · rw [if_neg c] at h
    exact ⟨by omega, rise_asc h⟩
theorem pE_mk {l : List S39} (hl : l.length ≤ 600) (ha : Asc 0 l) (hm : Amt l) (hd : ∀ x ∈ l, x.f0 ≤ 3652059) : pE l = 0 := by
  unfold pE flow_Merge.e
  rw [if_neg (by omega)]
  exact asc_rise ha hm hd
/-- Both may be merged, or nothing comes of it. -/
theorem G_cases (a b : List S39) : ((G a b).2 = 0 ∧ pE a = 0 ∧ pE b = 0 ∧ (Zip (a.length + b.length) a b []).2 = true ∧ (Zip (a.length + b.length) a b []).1.length ≤ 600 ∧ (G a b).1 = (Zip (a.length + b.length) a b []).1) ∨ ((G a b).2 ≠ 0 ∧ (G a b).1 = []) := by
  unfold G flow_Merge.g
  by_cases ea : flow_Merge.e a = 0
  · by_cases eb : flow_Merge.e b = 0
    · rw [if_neg (by simpa using ea), if_neg (by simpa using eb)]
      cases hz : (flow_Flow_22.zip (a.length + b.length) a b []).2 with
      | false => right; rw [if_pos rfl]; exact ⟨by decide, rfl⟩
      | true =>
        rw [if_neg (by decide)]
        by_cases hl : 600 < (flow_Flow_22.zip (a.length + b.length) a b []).1.length
        · right; rw [if_pos hl]; exact ⟨by decide, rfl⟩
        · left; rw [if_neg hl]; exact ⟨rfl, ea, eb, by first | exact hz | rfl, Nat.le_of_not_lt hl, rfl⟩
    · right; rw [if_neg (by simpa using ea), if_pos eb]; exact ⟨eb, rfl⟩
  · right; rw [if_pos ea]; exact ⟨ea, rfl⟩
theorem G_of {a b : List S39} (ea : pE a = 0) (eb : pE b = 0) (hz : (Zip (a.length + b.length) a b []).2 = true) (hl : (Zip (a.length + b.length) a b []).1.length ≤ 600) : G a b = ((Zip (a.length + b.length) a b []).1, 0) := by
  unfold G flow_Merge.g
  rw [if_neg (by simpa using ea), if_neg (by simpa using eb), if_neg (by rw [show (flow_Flow_22.zip (a.length + b.length) a b []).2 = true from hz]; decide), if_neg (by exact Nat.not_lt.2 hl)]
/-- What a merge that went through is. -/
theorem G_spec {a b : List S39} (h : (G a b).2 = 0) : pE a = 0 ∧ pE b = 0 ∧ pE (G a b).1 = 0 ∧ Asc 0 (G a b).1 ∧ (∀ x ∈ (G a b).1, x.f1 ≠ 0 ∧ May x.f1 = true) ∧ (∀ d, On (G a b).1 d = On a d + On b d) ∧ ((G a b).1.map (·.f1)).sum = (a.map (·.f1)).sum + (b.map (·.f1)).sum ∧ (G a b).1.length ≤ a.length + b.length ∧ (G a b).1.length ≤ 600 := by
  rcases G_cases a b with ⟨h0, ea, eb, hz, hl, he⟩ | ⟨h1, _⟩
  · obtain ⟨la, aa, ma, da⟩ := pE_ok ea
    obtain ⟨lb, ab, mb, db⟩ := pE_ok eb
    obtain ⟨r1, r2, r3, r4, r5, r6⟩ := zip_spec (a.length + b.length) a b [] 0 (Nat.le_refl _) aa ab (Int.le_refl _) trivial (fun x hx => by cases hx) (fun x hx => by cases hx) (fun x hx => by cases hx) hz
    rw [he]
    refine ⟨ea, eb, pE_mk hl r1 (fun x hx => (may_iff _).1 (r2 x hx).2) (fun x hx => ?_), r1, r2, fun d => by rw [r3]; simp [On], by rw [r4]; simp, by simpa using r5, hl⟩
    rcases r6 x hx with h | ⟨y, hy, e⟩ | ⟨y, hy, e⟩
    · cases h
    · have := da y hy; omega
    · have := db y hy; omega
  · exact absurd h h1
theorem G_err {a b : List S39} (h : (G a b).2 ≠ 0) : (G a b).1 = [] := by
  rcases G_cases a b with ⟨h0, _⟩ | ⟨_, h1⟩
  · exact absurd h0 h
  · exact h1
theorem G_swap (a b : List S39) : (G a b).1 = (G b a).1 ∧ ((G a b).2 = 0 ↔ (G b a).2 = 0) := by
  have hz : Zip (b.length + a.length) b a [] = Zip (a.length + b.length) a b [] := by rw [Nat.add_comm]; exact zip_swap _ _ _ _
  rcases G_cases a b with ⟨h0, ea, eb, hz1, hl, he⟩ | ⟨h0, h1⟩
  · have := G_of (a := b) (b := a) eb ea (by rw [hz]; exact hz1) (by rw [hz]; exact hl)
    rw [this, he, hz]
    exact ⟨rfl, by simp [h0]⟩
  · rcases G_cases b a with ⟨g0, ea, eb, hz1, hl, he⟩ | ⟨g0, g1⟩
    · have := G_of (a := a) (b := b) eb ea (by rw [← hz]; exact hz1) (by rw [← hz]; exact hl)
      rw [this] at h0
      exact absurd rfl h0
    · rw [h1, g1]
      exact ⟨rfl, by simp [h0, g0]⟩
/-- With nothing, flows without noughts are themselves. -/
theorem zip_nil : ∀ (n : Nat) (l acc : List S39), l.length ≤ n → (∀ x ∈ l, x.f1 ≠ 0 ∧ May x.f1 = true) → Zip n l [] acc = (acc ++ l, true) := by
  intro n
  induction n with
  | zero =>
    intro l acc h _
    obtain rfl : l = [] := List.eq_nil_of_length_eq_zero (by omega)
    rw [List.append_nil]; rfl
  | succ n ih =>
    intro l acc h hx
    cases l with
    | nil => rw [List.append_nil]; rfl
    | cons x t =>
      obtain ⟨h1, h2⟩ := hx x List.mem_cons_self
      show flow_Flow_22.zip (n + 1) (x :: t) [] acc = _
      rw [flow_Flow_22.zip]
      show (if May (x.f1 + 0) = true then Zip n t [] (Put acc x.f0 (x.f1 + 0)) else _) = _
      rw [Int.add_zero, if_pos h2, ih t _ (by simpa using h) (fun y hy => hx y (List.mem_cons_of_mem _ hy))]
      unfold Put flow_Flow_22.put
      rw [if_neg h1]
      simp
theorem G_nil {l : List S39} (h : pE l = 0) (hx : ∀ x ∈ l, x.f1 ≠ 0 ∧ May x.f1 = true) : G l [] = (l, 0) := by
  have hz := zip_nil (l.length + ([] : List S39).length) l [] (by simp) hx
  have hl := (pE_ok h).1
  rw [G_of h rfl (by rw [hz]) (by rw [hz]; simpa using hl), hz]
  rfl
/-- Parts, one behind the other, are the whole. -/
theorem zip_parts : ∀ (n : Nat) (p q acc : List S39), p.length + q.length ≤ n → (∀ x ∈ p, ∀ y ∈ q, x.f0 < y.f0) → Zip n p q acc = Zip n (p ++ q) [] acc := by
  intro n
  induction n with
  | zero => intro p q acc h _; rfl
  | succ n ih =>
    intro p q acc h hlt
    cases p with
    | nil =>
      rw [List.nil_append]
      cases q with
      | nil => rfl
      | cons y u =>
        show flow_Flow_22.zip (n + 1) [] (y :: u) acc = flow_Flow_22.zip (n + 1) (y :: u) [] acc
        rw [flow_Flow_22.zip, flow_Flow_22.zip]
        show (if May (0 + y.f1) = true then Zip n [] u (Put acc y.f0 (0 + y.f1)) else _) = (if May (y.f1 + 0) = true then Zip n u [] (Put acc y.f0 (y.f1 + 0)) else _)
        rw [Int.zero_add, Int.add_zero, ih [] u _ (by simpa using h) (fun x hx => by cases hx), List.nil_append]
    | cons x t =>
      have hn : Nxt (x :: t) q = some (x.f0, x.f1, 0, t, q) := by
        cases q with
        | nil => rfl
        | cons y u =>
          show flow_Flow_22.nxt (x :: t) (y :: u) = _
          simp only [flow_Flow_22.nxt]
          rw [if_pos (hlt x List.mem_cons_self y List.mem_cons_self)]
      show flow_Flow_22.zip (n + 1) (x :: t) q acc = flow_Flow_22.zip (n + 1) (x :: (t ++ q)) [] acc
      rw [flow_Flow_22.zip, flow_Flow_22.zip, show flow_Flow_22.nxt (x :: t) q = _ from hn]
      show (if May (x.f1 + 0) = true then Zip n t q (Put acc x.f0 (x.f1 + 0)) else _) = (if May (x.f1 + 0) = true then Zip n (t ++ q) [] (Put acc x.f0 (x.f1 + 0)) else _)
      rw [ih t q _ (by simp at h; omega) (fun a ha b hb => hlt a (List.mem_cons_of_mem _ ha) b hb)]
/-- Merging single flows that may be goes through. -/
theorem zip_nil_ok : ∀ (n : Nat) (l acc : List S39), l.length ≤ n → Amt l → (Zip n l [] acc).2 = true ∧ (Zip n l [] acc).1.length ≤ acc.length + l.length := by
  intro n
  induction n with
  | zero =>
    intro l acc h _
    exact ⟨rfl, by show acc.length ≤ _; omega⟩
  | succ n ih =>
    intro l acc h hx
    cases l with
    | nil => exact ⟨rfl, by show acc.length ≤ _; omega⟩
    | cons x t =>
      have h2 : May x.f1 = true := (may_iff _).2 (hx x List.mem_cons_self)
      have e : Zip (n + 1) (x :: t) [] acc = Zip n t [] (Put acc x.f0 x.f1) := by
        show flow_Flow_22.zip (n + 1) (x :: t) [] acc = _
        rw [flow_Flow_22.zip]
        show (if May (x.f1 + 0) = true then Zip n t [] (Put acc x.f0 (x.f1 + 0)) else _) = _
        rw [Int.add_zero, if_pos h2]
      rw [e]
      obtain ⟨r1, r2⟩ := ih t (Put acc x.f0 x.f1) (by simpa using h) (fun y hy => hx y (List.mem_cons_of_mem _ hy))
      have := flow_Flow_22.put_len acc x.f0 x.f1
      exact ⟨r1, by have h3 : (Put acc x.f0 x.f1).length ≤ acc.length + 1 := this; simp; omega⟩
/-- The reference's Merge is the program's. -/
theorem merge_ref (l0 l1 : List S40) : lombardref07_Merge.f l0 l1 = some ((G (l0.map c39) (l1.map c39)).1.map c40, (G (l0.map c39) (l1.map c39)).2) := by
  unfold lombardref07_Merge.f
  rw [show lombardref07_Merge.e l0 = pE (l0.map c39) from e_ref l0, show lombardref07_Merge.e l1 = pE (l1.map c39) from e_ref l1]
  by_cases ea : pE (l0.map c39) = 0
  · by_cases eb : pE (l1.map c39) = 0
    · have hg : G (l0.map c39) (l1.map c39) = flow_Merge.g2 (Zip ((l0.map c39).length + (l1.map c39).length) (l0.map c39) (l1.map c39) []) := by
        unfold G flow_Merge.g flow_Merge.g2
        rw [if_neg (show ¬ flow_Merge.e (l0.map c39) ≠ 0 by simpa using ea), if_neg (show ¬ flow_Merge.e (l1.map c39) ≠ 0 by simpa using eb)]
      rw [if_neg (show ¬ pE (l0.map c39) ≠ 0 by simpa using ea), if_neg (show ¬ pE (l1.map c39) ≠ 0 by simpa using eb), hg]
      obtain ⟨la, aa, _⟩ := pE_ok ea
      obtain ⟨lb, ab, _⟩ := pE_ok eb
      rw [go_zip 1300 (l0.map c39) (l1.map c39) [] [] l0 l1 [] 0 rfl rfl (fun x hx => by cases hx) (fun x hx => by cases hx) aa ab (Int.le_refl _) (by omega), List.map_nil]
      generalize Zip ((l0.map c39).length + (l1.map c39).length) (l0.map c39) (l1.map c39) [] = r
      obtain ⟨rl, rb⟩ := r
      unfold fin40 flow_Merge.g2
      cases rb with
      | false => rfl
      | true =>
        simp only [Bool.true_eq_false, if_false]
        by_cases hl : 600 < rl.length
        · rw [if_pos hl, if_pos hl]; rfl
        · rw [if_neg hl, if_neg hl]
    · have hg : G (l0.map c39) (l1.map c39) = ([], pE (l1.map c39)) := by
        unfold G flow_Merge.g
        rw [if_neg (show ¬ flow_Merge.e (l0.map c39) ≠ 0 by simpa using ea), if_pos (show flow_Merge.e (l1.map c39) ≠ 0 from eb)]
      rw [if_neg (show ¬ pE (l0.map c39) ≠ 0 by simpa using ea), if_pos (show pE (l1.map c39) ≠ 0 from eb), hg]
      rfl
  · have hg : G (l0.map c39) (l1.map c39) = ([], pE (l0.map c39)) := by
      unfold G flow_Merge.g
      rw [if_pos (show flow_Merge.e (l0.map c39) ≠ 0 from ea)]
    rw [if_pos (show pE (l0.map c39) ≠ 0 from ea), hg]
    rfl
theorem G_len (a b : List S39) : (G a b).1.length ≤ 600 := by
  rcases G_cases a b with ⟨h0, ea, eb, hz, hl, he⟩ | ⟨_, h1⟩
  · rw [he]; exact hl
  · rw [h1]; exact Nat.zero_le _
theorem rcheck_at (k : Nat) (l : List S40) (hl : l.length ≤ 1000000) (hk : 2 * l.length < k) : lombardref07_Check.f k l = some (pE (l.map c39)) := by
  rw [← e_ref]
  unfold lombardref07_Check.f rE lombardref07_Merge.e
  by_cases c : 600 < l.length
  · rw [if_pos (by omega), if_pos c]
  · rw [if_neg (by omega), if_neg c]
    exact lombardref07_Merge.ck_l l hl l.length 0 _ 0 (by omega) (by omega) (by omega)
theorem check_at (l : List S39) : flow_Check.f l = some (pE l) := rfl
theorem amt_in {l : List S39} (h : Amt l) : ∀ x ∈ l, inr x.f1 := fun x hx => by have := h x hx; unfold inr; omega
theorem amt_sum {l : List S39} (h : Amt l) : -((l.length : Int) * 10000000000000) ≤ (l.map (·.f1)).sum ∧ (l.map (·.f1)).sum ≤ (l.length : Int) * 10000000000000 := by
  induction l with
  | nil => simp
  | cons x t ih =>
    have h1 := h x List.mem_cons_self
    have h2 := ih (fun y hy => h y (List.mem_cons_of_mem _ hy))
    rw [List.map_cons, List.sum_cons, List.length_cons]
    constructor <;> (push_cast; omega)
theorem total_ok {l : List S39} (h : Amt l) (hl : l.length ≤ 10000) : flow_Total.f l = some ((l.map (·.f1)).sum, 0) := by
  have := amt_sum h
  rw [total_at l (by omega) (amt_in h), told_in (by omega) (by omega)]
/-! ### alive -/
theorem alive_at (k : Nat) : lombardlaw07_alive.f (k + 4) = some true := by
  have h1 : flow_Merge.f [⟨3, 5⟩] [⟨3, 2⟩, ⟨4, 1⟩] = some ([⟨3, 7⟩, ⟨4, 1⟩], 0) := by rfl
  have h2 : flow_Spread.f [⟨3, 7⟩, ⟨4, 1⟩] [3, 10] = some ([7, 1], 0) := by
    have t1 : flow_Total.f [⟨3, 7⟩] = some (7, 0) := by rw [total_at _ (by simp) (fun x hx => by rw [List.mem_singleton.1 hx]; decide)]; rfl
    have t2 : flow_Total.f [⟨4, 1⟩] = some (1, 0) := by rw [total_at _ (by simp) (fun x hx => by rw [List.mem_singleton.1 hx]; decide)]; rfl
    unfold flow_Spread.f flow_Spread.g
    rw [if_neg (by decide), if_neg (by decide), if_neg (by decide)]
    have f1 : ([⟨3, 7⟩, ⟨4, 1⟩] : List S39).filter (fun x => decide (x.f0 ≤ 3)) = [⟨3, 7⟩] := rfl
    have f2 : ([⟨3, 7⟩, ⟨4, 1⟩] : List S39).filter (fun x => !decide (x.f0 ≤ 3)) = [⟨4, 1⟩] := rfl
    have f3 : ([⟨4, 1⟩] : List S39).filter (fun x => decide (x.f0 ≤ 10)) = [⟨4, 1⟩] := rfl
    have f4 : ([⟨4, 1⟩] : List S39).filter (fun x => !decide (x.f0 ≤ 10)) = [] := rfl
    rw [flow_Spread.go, f1, f2, t1, Option.bind_some, if_pos rfl, flow_Spread.go, f3, f4, t2, Option.bind_some, if_pos rfl, flow_Spread.go]
    rfl
  simp only [lombardlaw07_alive.f, h1, Option.bind_some, h2]
  rw [from_at _ _ (by simp) (by simp)]
  simp only [Option.bind_some]
  rw [Same_at _ _ _ (by simp) (by simp)]
  have h3 : lombardref01_Same.f (k + 4) [7, 1] [7, 1] = some true := by
    simp [lombardref01_Same.f, lombardref01_Same.l0, rd, wrap64]
  simp [c40, h3]
end Go.Proofs.Ytpolkjmdkeengaa.Print
