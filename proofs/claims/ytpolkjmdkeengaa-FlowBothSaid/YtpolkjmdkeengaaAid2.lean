import Derived.Test.YtpolkjmdkeengaaAid
namespace Go.Proofs.Ytpolkjmdkeengaa.Print
open Go.RowKit Go.Proofs.YtpolkjmdkeengaaW.PrintWords Go.Proofs.YtpolkjmdkeengaaW.PrintLast Go.Proofs.YtpolkjmdkeengaaW.PrintMore
set_option linter.unusedVariables false
set_option linter.unusedSimpArgs false

/-! ### flows by days -/
abbrev Zip := flow_Flow_22.zip
abbrev Put := flow_Flow_22.put
abbrev May := flow_Flow_22.may
abbrev Nxt := flow_Flow_22.nxt
abbrev Amt := flow_Flow_22.amt
abbrev Rise := flow_Flow_29.rise
theorem may_iff (n : Int) : May n = true ↔ -10000000000000 ≤ n ∧ n ≤ 10000000000000 := by
  unfold May flow_Flow_22.may; simp
/-- Days rise, from behind a day on. -/
def Asc : Int → List S39 → Prop
  | _, [] => True
  | d, x :: t => d < x.f0 ∧ Asc x.f0 t
theorem Asc.mono {d e : Int} {l : List S39} (h : Asc e l) (hd : d ≤ e) : Asc d l := by
  cases l with
  | nil => trivial
  | cons x t => exact ⟨by have := h.1; omega, h.2⟩
theorem Asc.mem {d : Int} {l : List S39} (h : Asc d l) : ∀ x ∈ l, d < x.f0 := by
  induction l generalizing d with
  | nil => intro x hx; cases hx
  | cons y t ih =>
    intro x hx
    rcases List.mem_cons.1 hx with rfl | hx
    · exact h.1
    · have := ih h.2 x hx; have := h.1; omega
theorem rise_asc {d : Int} {l : List S39} (h : Rise d l = 0) : Asc d l ∧ Amt l ∧ ∀ x ∈ l, x.f0 ≤ 3652059 := by
  refine ⟨?_, flow_Merge.rise_amt d l h, ?_⟩
  · induction l generalizing d with
    | nil => trivial
    | cons x t ih =>
      unfold Rise at h
      rw [flow_Flow_29.rise] at h
      split at h
      · cases h
      · split at h
        · cases h
        · split at h
          · exact ⟨by omega, ih h⟩
          · cases h
  · induction l generalizing d with
    | nil => intro x hx; cases hx
    | cons x t ih =>
      unfold Rise at h
      rw [flow_Flow_29.rise] at h
      split at h
      · cases h
      · split at h
        · cases h
        · split at h
          · intro y hy
            rcases List.mem_cons.1 hy with rfl | hy
            · omega
            · exact ih h y hy
          · cases h
theorem asc_rise {d : Int} {l : List S39} (h : Asc d l) (ha : Amt l) (hd : ∀ x ∈ l, x.f0 ≤ 3652059) : Rise d l = 0 := by
  induction l generalizing d with
  | nil => rfl
  | cons x t ih =>
    unfold Rise
    rw [flow_Flow_29.rise, if_neg (by have := h.1; omega), if_neg (by have := hd x List.mem_cons_self; omega), if_pos (ha x List.mem_cons_self)]
    exact ih h.2 (fun y hy => ha y (List.mem_cons_of_mem _ hy)) (fun y hy => hd y (List.mem_cons_of_mem _ hy))
/-- The amount of a day. -/
def On (l : List S39) (d : Int) : Int := match l with | [] => 0 | x :: t => if x.f0 = d then x.f1 else On t d
theorem on_out {e d : Int} {l : List S39} (h : Asc e l) (hd : d ≤ e) : On l d = 0 := by
  induction l generalizing e with
  | nil => rfl
  | cons x t ih =>
    rw [On, if_neg (by have := h.1; omega)]
    exact ih h.2 (by have := h.1; omega)
theorem on_app (l m : List S39) (d : Int) (h : ∀ x ∈ l, x.f0 ≠ d) : On (l ++ m) d = On m d := by
  induction l with
  | nil => rfl
  | cons x t ih =>
    rw [List.cons_append, On, if_neg (h x List.mem_cons_self)]
    exact ih (fun y hy => h y (List.mem_cons_of_mem _ hy))
theorem on_snoc (l : List S39) (k n d : Int) (h : ∀ x ∈ l, x.f0 < k) : On (l ++ [⟨k, n⟩]) d = if d = k then n else On l d := by
  induction l with
  | nil => by_cases c : d = k
           · subst c; simp [On]
           · rw [if_neg c, List.nil_append]; show (if k = d then n else On [] d) = On [] d; rw [if_neg (fun e => c e.symm)]
  | cons x t ih =>
    have hx := h x List.mem_cons_self
    rw [List.cons_append, On, ih (fun y hy => h y (List.mem_cons_of_mem _ hy)), On]
    by_cases c : x.f0 = d
    · rw [if_pos c, if_pos c, if_neg (by omega)]
    · rw [if_neg c, if_neg c]
theorem asc_snoc {e k n : Int} {l : List S39} (h : Asc e l) (hl : ∀ x ∈ l, x.f0 < k) (he : e < k) : Asc e (l ++ [⟨k, n⟩]) := by
  induction l generalizing e with
  | nil => exact ⟨he, trivial⟩
  | cons x t ih => exact ⟨h.1, ih h.2 (fun y hy => hl y (List.mem_cons_of_mem _ hy)) (hl x List.mem_cons_self)⟩
/-- Two such rows without noughts are one if their days' amounts are. -/
theorem asc_ext {e : Int} {l m : List S39} (hl : Asc e l) (hm : Asc e m) (zl : ∀ x ∈ l, x.f1 ≠ 0) (zm : ∀ x ∈ m, x.f1 ≠ 0) (h : ∀ d, On l d = On m d) : l = m := by
  induction l generalizing e m with
  | nil =>
    cases m with
    | nil => rfl
    | cons y u =>
      have := h y.f0
      rw [On, On, if_pos rfl] at this
      exact absurd this.symm (zm y List.mem_cons_self)
  | cons x t ih =>
    cases m with
    | nil =>
      have := h x.f0
      rw [On, On, if_pos rfl] at this
      exact absurd this (zl x List.mem_cons_self)
    | cons y u =>
      have hxy : x.f0 = y.f0 := by
        have h1 := h x.f0
        have h2 := h y.f0
        rw [On, On, if_pos rfl] at h1
        rw [On, On, if_pos rfl] at h2
        have z1 := zl x List.mem_cons_self
        have z2 := zm y List.mem_cons_self
        apply Classical.byContradiction
        intro c
        rw [if_neg (fun e => c e.symm)] at h1
        rw [if_neg c] at h2
        by_cases lt : x.f0 < y.f0
        · exact z1 (h1.trans (on_out hm.2 (by omega)))
        · exact z2 (h2.symm.trans (on_out hl.2 (by omega)))
      have h0 : x = y := by
        have h1 := h x.f0
        rw [On, On, if_pos rfl, if_pos hxy.symm] at h1
        cases x; cases y; simp only at hxy h1; subst hxy; subst h1; rfl
      subst h0
      congr 1
      refine ih hl.2 hm.2 (fun z hz => zl z (List.mem_cons_of_mem _ hz)) (fun z hz => zm z (List.mem_cons_of_mem _ hz)) (fun d => ?_)
      by_cases c : x.f0 = d
      · rw [on_out hl.2 (by omega), on_out hm.2 (by omega)]
      · have := h d
        rw [On, On, if_neg c, if_neg c] at this
        exact this
/-- The next day of two rows. -/
theorem nxt_spec {a b a' b' : List S39} {k p q e : Int} (h : Nxt a b = some (k, p, q, a', b')) (ha : Asc e a) (hb : Asc e b) :
    e < k ∧ Asc k a' ∧ Asc k b' ∧ (∀ d, On a d = if d = k then p else On a' d) ∧ (∀ d, On b d = if d = k then q else On b' d) ∧ (a.map (·.f1)).sum = p + (a'.map (·.f1)).sum ∧ (b.map (·.f1)).sum = q + (b'.map (·.f1)).sum ∧
      (∀ x ∈ a', x ∈ a) ∧ (∀ x ∈ b', x ∈ b) ∧ ((∃ x ∈ a, x.f0 = k ∧ x.f1 = p) ∨ p = 0) ∧ ((∃ x ∈ b, x.f0 = k ∧ x.f1 = q) ∨ q = 0) ∧ ((∃ x ∈ a, x.f0 = k) ∨ ∃ x ∈ b, x.f0 = k) := by
  have onc : ∀ (x : S39) (t : List S39), Asc x.f0 t → ∀ d, On (x :: t) d = if d = x.f0 then x.f1 else On t d := fun x t _ d => by
    rw [On]
    by_cases c : x.f0 = d
    · rw [if_pos c, if_pos c.symm]
    · rw [if_neg c, if_neg (fun e => c e.symm)]
  have out : ∀ (t : List S39) (k : Int), Asc k t → ∀ d, On t d = if d = k then 0 else On t d := fun t k ht d => by
    by_cases c : d = k
    · subst c; rw [if_pos rfl, on_out ht (Int.le_refl _)]
    · rw [if_neg c]
  unfold Nxt flow_Flow_22.nxt at h
  split at h
  · cases h
  · rename_i x t
    simp only [Option.some.injEq, Prod.mk.injEq] at h
    obtain ⟨rfl, rfl, rfl, rfl, rfl⟩ := h
    exact ⟨ha.1, ha.2, trivial, onc _ _ ha.2, fun d => by simp [On], by simp, by simp, fun y hy => List.mem_cons_of_mem _ hy, fun y hy => hy, .inl ⟨x, List.mem_cons_self, rfl, rfl⟩, .inr rfl, .inl ⟨x, List.mem_cons_self, rfl⟩⟩
  · rename_i y u
    simp only [Option.some.injEq, Prod.mk.injEq] at h
    obtain ⟨rfl, rfl, rfl, rfl, rfl⟩ := h
    exact ⟨hb.1, trivial, hb.2, fun d => by simp [On], onc _ _ hb.2, by simp, by simp, fun y hy => hy, fun y hy => List.mem_cons_of_mem _ hy, .inr rfl, .inl ⟨y, List.mem_cons_self, rfl, rfl⟩, .inr ⟨y, List.mem_cons_self, rfl⟩⟩
  · rename_i x t y u
    split at h
    · simp only [Option.some.injEq, Prod.mk.injEq] at h
      obtain ⟨rfl, rfl, rfl, rfl, rfl⟩ := h
      rename_i c
      have hb' : Asc x.f0 (y :: u) := ⟨c, hb.2⟩
      exact ⟨ha.1, ha.2, hb', onc _ _ ha.2, out _ _ hb', by simp, by simp, fun y hy => List.mem_cons_of_mem _ hy, fun y hy => hy, .inl ⟨x, List.mem_cons_self, rfl, rfl⟩, .inr rfl, .inl ⟨x, List.mem_cons_self, rfl⟩⟩
    · split at h
      · simp only [Option.some.injEq, Prod.mk.injEq] at h
        obtain ⟨rfl, rfl, rfl, rfl, rfl⟩ := h
        rename_i c
        have ha' : Asc y.f0 (x :: t) := ⟨c, ha.2⟩
        exact ⟨hb.1, ha', hb.2, out _ _ ha', onc _ _ hb.2, by simp, by simp, fun y hy => hy, fun y hy => List.mem_cons_of_mem _ hy, .inr rfl, .inl ⟨y, List.mem_cons_self, rfl, rfl⟩, .inr ⟨y, List.mem_cons_self, rfl⟩⟩
      · simp only [Option.some.injEq, Prod.mk.injEq] at h
        obtain ⟨rfl, rfl, rfl, rfl, rfl⟩ := h
        rename_i c1 c2
        have exy : y.f0 = x.f0 := by omega
        exact ⟨ha.1, ha.2, by rw [← exy]; exact hb.2, onc _ _ ha.2, fun d => by rw [onc _ _ hb.2, exy], by simp, by simp, fun y hy => List.mem_cons_of_mem _ hy, fun y hy => List.mem_cons_of_mem _ hy, .inl ⟨x, List.mem_cons_self, rfl, rfl⟩, .inl ⟨y, List.mem_cons_self, exy, rfl⟩, .inl ⟨x, List.mem_cons_self, rfl⟩⟩
theorem nxt_none {a b : List S39} (h : Nxt a b = none) : a = [] ∧ b = [] := by
  unfold Nxt flow_Flow_22.nxt at h
  split at h
  · exact ⟨rfl, rfl⟩
  · cases h
  · cases h
  · split at h
    · cases h
    · split at h <;> cases h
/-- What a merge is: risen days, no nought, each day's amounts together. -/
theorem zip_spec (n : Nat) (a b acc : List S39) (e : Int) (hn : a.length + b.length ≤ n) (ha : Asc e a) (hb : Asc e b) (h0 : 0 ≤ e) (hacc : Asc 0 acc) (hle : ∀ x ∈ acc, x.f0 ≤ e) (hz : ∀ x ∈ acc, x.f1 ≠ 0) (hm : ∀ x ∈ acc, May x.f1 = true)
    (hr : (Zip n a b acc).2 = true) : Asc 0 (Zip n a b acc).1 ∧ (∀ x ∈ (Zip n a b acc).1, x.f1 ≠ 0 ∧ May x.f1 = true) ∧ (∀ d, On (Zip n a b acc).1 d = On acc d + On a d + On b d) ∧
      ((Zip n a b acc).1.map (·.f1)).sum = (acc.map (·.f1)).sum + (a.map (·.f1)).sum + (b.map (·.f1)).sum ∧ (Zip n a b acc).1.length ≤ acc.length + a.length + b.length ∧ (∀ x ∈ (Zip n a b acc).1, x ∈ acc ∨ (∃ y ∈ a, y.f0 = x.f0) ∨ ∃ y ∈ b, y.f0 = x.f0) := by
  induction n generalizing a b acc e with
  | zero =>
    obtain rfl : a = [] := List.eq_nil_of_length_eq_zero (by omega)
    obtain rfl : b = [] := List.eq_nil_of_length_eq_zero (by omega)
    exact ⟨hacc, fun x hx => ⟨hz x hx, hm x hx⟩, fun d => by simp [On, Zip, flow_Flow_22.zip], by simp [Zip, flow_Flow_22.zip], by simp [Zip, flow_Flow_22.zip], fun x hx => .inl hx⟩
  | succ n ih =>
    cases hx : Nxt a b with
    | none =>
      obtain ⟨rfl, rfl⟩ := nxt_none hx
      have : Zip (n + 1) [] [] acc = (acc, true) := rfl
      rw [this]
      exact ⟨hacc, fun x hx => ⟨hz x hx, hm x hx⟩, fun d => by simp [On], by simp, by simp, fun x hx => .inl hx⟩
    | some r =>
      obtain ⟨k, p, q, a', b'⟩ := r
      have hl := flow_Flow_22.nxt_len hx
      obtain ⟨s1, s2, s3, s4, s5, s6, s7, s8, s9, _, _, s10⟩ := nxt_spec hx ha hb
      have ez : Zip (n + 1) a b acc = if May (p + q) = true then Zip n a' b' (Put acc k (p + q)) else (Put acc k (p + q), false) := by
        show flow_Flow_22.zip (n + 1) a b acc = _
        rw [flow_Flow_22.zip]
        rw [show flow_Flow_22.nxt a b = _ from hx]
      by_cases c : May (p + q) = true
      · rw [ez, if_pos c] at hr ⊢
        have hlt : ∀ x ∈ acc, x.f0 < k := fun x hx => by have := hle x hx; omega
        have hp : Asc 0 (Put acc k (p + q)) ∧ (∀ x ∈ Put acc k (p + q), x.f0 ≤ k) ∧ (∀ x ∈ Put acc k (p + q), x.f1 ≠ 0) ∧ (∀ x ∈ Put acc k (p + q), May x.f1 = true) ∧ (∀ d, On (Put acc k (p + q)) d = if d = k then p + q else On acc d) ∧
            ((Put acc k (p + q)).map (·.f1)).sum = (acc.map (·.f1)).sum + (p + q) ∧ (Put acc k (p + q)).length ≤ acc.length + 1 ∧ (∀ x ∈ Put acc k (p + q), x ∈ acc ∨ x.f0 = k) := by
          unfold Put flow_Flow_22.put
          by_cases z : p + q = 0
          · rw [if_pos z]
            refine ⟨hacc, fun x hx => by have := hlt x hx; omega, hz, hm, fun d => ?_, by omega, by omega, fun x hx => .inl hx⟩
            by_cases cd : d = k
            · subst cd
              rw [if_pos rfl, z]
              have : On (acc ++ []) d = On [] d := on_app acc [] d (fun x hx => by have := hlt x hx; omega)
              rw [List.append_nil] at this
              exact this
            · rw [if_neg cd]
          · rw [if_neg z]
            refine ⟨asc_snoc hacc hlt (by omega), ?_, ?_, ?_, fun d => on_snoc acc k (p + q) d hlt, by simp, by simp, ?_⟩
            · intro x hx
              rcases List.mem_append.1 hx with hx | hx
              · have := hlt x hx; omega
              · rw [List.mem_singleton.1 hx]; exact Int.le_refl _
            · intro x hx
              rcases List.mem_append.1 hx with hx | hx
              · exact hz x hx
              · rw [List.mem_singleton.1 hx]; exact z
            · intro x hx
              rcases List.mem_append.1 hx with hx | hx
              · exact hm x hx
              · rw [List.mem_singleton.1 hx]; exact c
            · intro x hx
              rcases List.mem_append.1 hx with hx | hx
              · exact .inl hx
              · rw [List.mem_singleton.1 hx]; exact .inr rfl
        obtain ⟨p1, p2, p3, p4, p5, p6, p7, p8⟩ := hp
        obtain ⟨r1, r2, r3, r4, r5, r6⟩ := ih a' b' (Put acc k (p + q)) k (by omega) s2 s3 (by omega) p1 p2 p3 p4 hr
        refine ⟨r1, r2, fun d => ?_, by rw [r4, p6, s6, s7]; omega, by omega, fun x hx => ?_⟩
        · rw [r3, p5, s4, s5]
          by_cases cd : d = k
          · subst cd
            rw [if_pos rfl, if_pos rfl, if_pos rfl, on_out s2 (Int.le_refl _), on_out s3 (Int.le_refl _)]
            have : On acc d = 0 := by
              have h2 : On (acc ++ []) d = On [] d := on_app acc [] d (fun x hx => by have := hlt x hx; omega)
              rw [List.append_nil] at h2
              exact h2
            omega
          · rw [if_neg cd, if_neg cd, if_neg cd]
        · rcases r6 x hx with h | ⟨y, hy, hyx⟩ | ⟨y, hy, hyx⟩
          · rcases p8 x h with h | h
            · exact .inl h
            · rcases s10 with ⟨y, hy, hyk⟩ | ⟨y, hy, hyk⟩
              · exact .inr (.inl ⟨y, hy, by omega⟩)
              · exact .inr (.inr ⟨y, hy, by omega⟩)
          · exact .inr (.inl ⟨y, s8 y hy, hyx⟩)
          · exact .inr (.inr ⟨y, s9 y hy, hyx⟩)
      · rw [ez, if_neg c] at hr
        cases hr
theorem nxt_swap (a b : List S39) : Nxt b a = (Nxt a b).map fun r => (r.1, r.2.2.1, r.2.1, r.2.2.2.2, r.2.2.2.1) := by
  unfold Nxt
  cases a with
  | nil => cases b <;> rfl
  | cons x t =>
    cases b with
    | nil => rfl
    | cons y u =>
      simp only [flow_Flow_22.nxt]
      by_cases c1 : x.f0 < y.f0
      · rw [if_neg (by omega), if_pos c1, if_pos c1]; rfl
      · rw [if_neg c1, if_neg c1]
        by_cases c2 : y.f0 < x.f0
        · rw [if_pos c2, if_pos c2]; rfl
        · rw [if_neg c2, if_neg c2, show y.f0 = x.f0 by omega]; rfl
theorem zip_swap (n : Nat) (a b acc : List S39) : Zip n b a acc = Zip n a b acc := by
  induction n generalizing a b acc with
  | zero => rfl
  | succ n ih =>
    show flow_Flow_22.zip (n + 1) b a acc = flow_Flow_22.zip (n + 1) a b acc
    rw [flow_Flow_22.zip, flow_Flow_22.zip, show flow_Flow_22.nxt b a = _ from nxt_swap a b]
    cases h : flow_Flow_22.nxt a b with
    | none => rw [show Nxt a b = none from h]; rfl
    | some r =>
      rw [show Nxt a b = some r from h]
      obtain ⟨k, p, q, a', b'⟩ := r
      simp only [Option.map_some]
      rw [Int.add_comm q p, show flow_Flow_22.zip n b' a' _ = _ from ih a' b' _]
/-! ### the reference's -/
abbrev rE := lombardref07_Merge.e
abbrev pE := flow_Merge.e
theorem rise_ref (d : Int) (l : List S40) : lombardref07_Merge.rise d l = Rise d (l.map c39) := by
  unfold Rise
  induction l generalizing d with
  | nil => rfl
  | cons x t ih =>
    rw [lombardref07_Merge.rise, List.map_cons, flow_Flow_29.rise, ih]
    rfl
theorem e_ref (l : List S40) : rE l = pE (l.map c39) := by
  unfold rE pE lombardref07_Merge.e flow_Merge.e
  rw [rise_ref, List.length_map]
theorem on_ref (l : List S40) (d : Int) : lombardref07_Merge.on l d = On (l.map c39) d := by
  induction l with
  | nil => rfl
  | cons x t ih => rw [lombardref07_Merge.on, List.map_cons, On, ih]; rfl
/-- The next day behind one. -/
def nx39 (day : Int) : List S39 → Int → Int
  | [], n => n
  | x :: t, n => nx39 day t (if day < x.f0 ∧ (n = 0 ∨ x.f0 < n) then x.f0 else n)
theorem nx_ref (day : Int) (l : List S40) (n : Int) : lombardref07_Merge.nx day l n = nx39 day (l.map c39) n := by
  induction l generalizing n with
  | nil => rfl
  | cons x t ih => rw [lombardref07_Merge.nx, List.map_cons, nx39, ih]; rfl
theorem nx_pre (day : Int) (l m : List S39) (n : Int) (h : ∀ x ∈ l, x.f0 ≤ day) : nx39 day (l ++ m) n = nx39 day m n := by
  induction l with
  | nil => rfl
  | cons x t ih =>
    rw [List.cons_append, nx39, if_neg (fun c => by have := h x List.mem_cons_self; omega)]
    exact ih (fun y hy => h y (List.mem_cons_of_mem _ hy))
theorem nx_keep (day : Int) (l : List S39) (n : Int) (hn : n ≠ 0) (h : ∀ x ∈ l, n ≤ x.f0) : nx39 day l n = n := by
  induction l with
  | nil => rfl
  | cons x t ih =>
    rw [nx39, if_neg (fun c => by have := h x List.mem_cons_self; omega)]
    exact ih (fun y hy => h y (List.mem_cons_of_mem _ hy))
theorem nx_asc {day : Int} {x : S39} {t : List S39} (h : Asc day (x :: t)) (h0 : 0 ≤ day) (n : Int) : nx39 day (x :: t) n = if n = 0 ∨ x.f0 < n then x.f0 else n := by
  rw [nx39]
  by_cases c : n = 0 ∨ x.f0 < n
  · rw [if_pos ⟨h.1, c⟩, if_pos c]
    exact nx_keep day t x.f0 (by have := h.1; omega) (fun y hy => by have := h.2.mem y hy; omega)
  · rw [if_neg (fun z => c z.2), if_neg c]
    exact nx_keep day t n (by omega) (fun y hy => by have := h.2.mem y hy; omega)
theorem nx_both {day : Int} {a b : List S39} (ha : Asc day a) (hb : Asc day b) (h0 : 0 ≤ day) : nx39 day b (nx39 day a 0) = match Nxt a b with | none => 0 | some r => r.1 := by
  unfold Nxt
  cases a with
  | nil =>
    cases b with
    | nil => rfl
    | cons y u => rw [show nx39 day [] 0 = 0 from rfl, nx_asc hb h0, if_pos (.inl rfl)]; rfl
  | cons x t =>
    rw [nx_asc ha h0, if_pos (.inl rfl)]
    cases b with
    | nil => rfl
    | cons y u =>
      have hx := ha.1
      rw [nx_asc hb h0]
      simp only [flow_Flow_22.nxt]
      by_cases c1 : x.f0 < y.f0
      · rw [if_neg (by omega), if_pos c1]
      · rw [if_neg c1]
        by_cases c2 : y.f0 < x.f0
        · rw [if_pos (.inr c2), if_pos c2]
        · rw [if_neg (by omega), if_neg c2]
theorem nxt_cut_a {a b a' b' : List S39} {k p q : Int} (h : Nxt a b = some (k, p, q, a', b')) : ∃ w, a = w ++ a' ∧ ∀ x ∈ w, x.f0 ≤ k := by
  unfold Nxt flow_Flow_22.nxt at h
  split at h
  · cases h
  · rename_i x t
    simp only [Option.some.injEq, Prod.mk.injEq] at h
    obtain ⟨rfl, rfl, rfl, rfl, rfl⟩ := h
    exact ⟨[x], rfl, fun y hy => by rw [List.mem_singleton.1 hy]; exact Int.le_refl _⟩
  · simp only [Option.some.injEq, Prod.mk.injEq] at h
    obtain ⟨rfl, rfl, rfl, rfl, rfl⟩ := h
    exact ⟨[], rfl, fun y hy => by cases hy⟩
  · rename_i x t y u
    split at h
    · simp only [Option.some.injEq, Prod.mk.injEq] at h
      obtain ⟨rfl, rfl, rfl, rfl, rfl⟩ := h
      exact ⟨[x], rfl, fun y hy => by rw [List.mem_singleton.1 hy]; exact Int.le_refl _⟩
    · split at h
      · simp only [Option.some.injEq, Prod.mk.injEq] at h
        obtain ⟨rfl, rfl, rfl, rfl, rfl⟩ := h
        exact ⟨[], rfl, fun y hy => by cases hy⟩
      · simp only [Option.some.injEq, Prod.mk.injEq] at h
        obtain ⟨rfl, rfl, rfl, rfl, rfl⟩ := h
        exact ⟨[x], rfl, fun y hy => by rw [List.mem_singleton.1 hy]; exact Int.le_refl _⟩
theorem nxt_cut_b {a b a' b' : List S39} {k p q : Int} (h : Nxt a b = some (k, p, q, a', b')) : ∃ w, b = w ++ b' ∧ ∀ x ∈ w, x.f0 ≤ k := by
  have h2 : Nxt b a = some (k, q, p, b', a') := by rw [nxt_swap, h]; rfl
  exact nxt_cut_a h2
/-- What is told at the end. -/
def fin40 (r : List S39 × Bool) : List S40 × Int := if r.2 = false then ([], 3) else if 600 < r.1.length then ([], 10) else (r.1.map c40, 0)
theorem go_zip : ∀ (k : Nat) (a b pa pb : List S39) (l0 l1 acc : List S40) (day : Int), l0.map c39 = pa ++ a → l1.map c39 = pb ++ b → (∀ x ∈ pa, x.f0 ≤ day) → (∀ x ∈ pb, x.f0 ≤ day) → Asc day a → Asc day b → 0 ≤ day → a.length + b.length < k →
    lombardref07_Merge.go l0 l1 k day acc = some (fin40 (Zip (a.length + b.length) a b (acc.map c39))) := by
  intro k
  induction k with
  | zero => intro a b pa pb l0 l1 acc day h1 h2 h3 h4 ha hb h0 hk; omega
  | succ k ih =>
    intro a b pa pb l0 l1 acc day h1 h2 h3 h4 ha hb h0 hk
    rw [lombardref07_Merge.go, nx_ref, nx_ref, h1, h2, nx_pre _ _ _ _ h3, nx_pre _ _ _ _ h4, nx_both ha hb h0]
    cases hx : Nxt a b with
    | none =>
      obtain ⟨rfl, rfl⟩ := nxt_none hx
      simp only [if_true]
      rw [show Zip (([] : List S39).length + ([] : List S39).length) [] [] (acc.map c39) = (acc.map c39, true) from rfl]
      unfold fin40
      simp only [Bool.true_eq_false, if_false, List.length_map, c4039]
      by_cases c : 600 < acc.length
      · rw [if_pos c, if_pos c]
      · rw [if_neg c, if_neg c]
    | some r =>
      obtain ⟨d, p, q, a', b'⟩ := r
      obtain ⟨s1, s2, s3, s4, s5, s6, s7, s8, s9, s10, s11, s12⟩ := nxt_spec hx ha hb
      have hl := flow_Flow_22.nxt_len hx
      simp only
      have o1 : lombardref07_Merge.on l0 d = p := by
        rw [on_ref, h1, on_app _ _ _ (fun x hx => by have := h3 x hx; omega), s4, if_pos rfl]
      have o2 : lombardref07_Merge.on l1 d = q := by
        rw [on_ref, h2, on_app _ _ _ (fun x hx => by have := h4 x hx; omega), s5, if_pos rfl]
      rw [if_neg (by omega), o1, o2]
      have ez : Zip (a.length + b.length) a b (acc.map c39) = if May (p + q) = true then Zip (a'.length + b'.length) a' b' (Put (acc.map c39) d (p + q)) else (Put (acc.map c39) d (p + q), false) := by
        have e1 : Zip (a.length + b.length) a b (acc.map c39) = Zip (a.length + b.length + 1) a b (acc.map c39) := flow_Flow_22.zip_more _ _ _ _ _ (Nat.le_refl _) (by omega)
        rw [e1]
        show flow_Flow_22.zip (a.length + b.length + 1) a b _ = _
        rw [flow_Flow_22.zip, show flow_Flow_22.nxt a b = _ from hx]
        simp only
        rw [flow_Flow_22.zip_more a' b' _ (a.length + b.length) (a'.length + b'.length) (by omega) (Nat.le_refl _)]
      rw [ez]
      by_cases c : May (p + q) = true
      · rw [if_pos c, if_pos c]
        have hsplit : ∀ (l u v : List S39), (∃ w, l = w ++ v ∧ ∀ x ∈ w, x.f0 ≤ d) → True := fun _ _ _ _ => trivial
        obtain ⟨wa, hwa, hwa2⟩ : ∃ w, a = w ++ a' ∧ ∀ x ∈ w, x.f0 ≤ d := nxt_cut_a hx
        obtain ⟨wb, hwb, hwb2⟩ : ∃ w, b = w ++ b' ∧ ∀ x ∈ w, x.f0 ≤ d := nxt_cut_b hx
        rw [ih a' b' (pa ++ wa) (pb ++ wb) l0 l1 _ d (by rw [h1, hwa, List.append_assoc]) (by rw [h2, hwb, List.append_assoc]) (fun x hx => (List.mem_append.1 hx).elim (fun h => by have := h3 x h; omega) (hwa2 x)) (fun x hx => (List.mem_append.1 hx).elim (fun h => by have := h4 x h; omega) (hwb2 x)) s2 s3 (by omega) (by omega)]
        congr 3
        unfold Put flow_Flow_22.put
        by_cases z : p + q = 0
        · rw [if_pos z, if_pos z]
        · rw [if_neg z, if_neg z, List.map_append]; rfl
      · rw [if_neg c, if_neg c]
        rfl
end Go.Proofs.Ytpolkjmdkeengaa.Print
