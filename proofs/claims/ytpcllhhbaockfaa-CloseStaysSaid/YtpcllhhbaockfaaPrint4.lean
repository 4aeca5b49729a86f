-- written by this session's program wip/hybrid.py over the kit's printer, and by hand. Not trusted: Lean checks it.
import Derived.Test.YtpcllhhbaockfaaPrint0
import Derived.Test.YtpcllhhbaockfaaPrint1
namespace Go.Proofs.Ytpcllhhbaockfaa.Print
open Go.RowKit Go.Proofs.YtpcllhhbaockfaaW.PrintWords Go.Proofs.YtpcllhhbaockfaaW.PrintLast Go.Proofs.YtpcllhhbaockfaaW.PrintMore
attribute [local go_sem] max2_int min2_int max_two min_two max_three min_three max_four min_four   -- for this text's walks alone
set_option linter.unusedVariables false
set_option linter.unusedSimpArgs false

/-! ### close_within: function 14 -/
set_option maxHeartbeats 4000000 in
set_option maxRecDepth 100000 in
theorem close_within.c26 (n lo hi : Int) {w : World} {g1 g2 : Nat} (h1 : w.heap[g1]? = some (.cells #[.int .i64 lo] 2 (0, 0))) (h2 : w.heap[g2]? = some (.cells #[.int .i64 hi] 2 (0, 0))) : Calls Try.prog 26 #[.int .i64 n, .pointer (some ⟨g1, 0, none⟩), .pointer (some ⟨g2, 0, none⟩)] w fun e w' => e = .returned (.bool (decide (n < lo) || decide (n > hi))) ∧ w' = w := by
  have c1 : w.cell? ⟨g1, 0, none⟩ = some (.int .i64 lo) := (blk_cell h1 0).trans rfl
  have c2 : w.cell? ⟨g2, 0, none⟩ = some (.int .i64 hi) := (blk_cell h2 0).trans rfl
  clear h1 h2
  go_enter Try.func26, Try.ntmps26
  by_cases e1 : n < lo
  · have d1 : decide (n < lo) = true := decide_eq_true e1
    go_wp2_with fail
    go_ret
    first | exact ⟨rfl, rfl⟩ | (rw [d1]; exact ⟨rfl, rfl⟩)
  · have d1 : decide (n < lo) = false := decide_eq_false e1
    go_wp2_with fail
    go_ret
    first | exact ⟨rfl, rfl⟩ | (rw [d1, Bool.false_or]; exact ⟨rfl, rfl⟩)
theorem close_within.ok26 : FnOk Try.prog 26 := ⟨_, Try.func26, by kernel_rfl, by kernel_rfl⟩
theorem close_within.at_ {w : World} {A : Option Addr} {l : List Int} (h : Kd.C (Kd.int .i64) w A l.length l) {i : Nat} (hi : i < l.length) : ∃ ad, A = some ad ∧ w.cell? (ad.add i) = some (.int .i64 l[i]) := by
  obtain ⟨ad, c, e, _, hK, hc0⟩ := Kd.C_get h (0 : Int) (i : Int) (by omega) (by omega)
  have hc : ∀ j u, c[j]? = some u → w.cell? (ad.add (i * 1 + j)) = some u := hc0
  have e3 : l.getD (Int.toNat (i : Int)) 0 = l[i] := by simp [List.getD, hi]
  rw [e3] at hK
  have hK : c = [.int .i64 l[i]] := hK
  subst hK
  have := hc 0 _ rfl
  rw [Nat.mul_one, Nat.add_zero] at this
  exact ⟨ad, e, this⟩
/-- The place of the first number that lies beyond. -/
def close_within.idx (lo hi : Int) : List Int → Nat → Int
  | [], _ => -1
  | x :: l, i => if x < lo ∨ x > hi then i else close_within.idx lo hi l (i + 1)
theorem close_within.idx_ge (lo hi : Int) : ∀ (l : List Int) (i : Nat), decide (close_within.idx lo hi l i ≥ 0) = !decide (∀ x ∈ l, lo ≤ x ∧ x ≤ hi)
  | [], i => by simp [close_within.idx]
  | x :: l, i => by
    rw [close_within.idx]
    by_cases h : x < lo ∨ x > hi
    · rw [if_pos h, decide_eq_true (by omega), decide_eq_false (fun h2 => by have := h2 x List.mem_cons_self; omega)]; rfl
    · rw [if_neg h, close_within.idx_ge lo hi l (i + 1)]
      congr 1
      refine decide_eq_decide.2 ⟨fun h2 y hy => ?_, fun h2 y hy => h2 y (List.mem_cons_of_mem _ hy)⟩
      rcases List.mem_cons.1 hy with rfl | hy
      · omega
      · exact h2 y hy
set_option maxHeartbeats 4000000 in
set_option maxRecDepth 100000 in
theorem close_within.c47 (lo hi : Int) {w : World} {A : Option Addr} {c : Nat} {l : List Int} (hC : Kd.C (Kd.int .i64) w A l.length l) {g1 g2 : Nat} (h1 : w.heap[g1]? = some (.cells #[.int .i64 lo] 2 (0, 0))) (h2 : w.heap[g2]? = some (.cells #[.int .i64 hi] 2 (0, 0))) : Calls Try.prog 47 #[.slice A l.length c, .func (.func 26) #[] #[.pointer (some ⟨g1, 0, none⟩), .pointer (some ⟨g2, 0, none⟩)]] w fun e w' => e = .returned (.int .i64 (close_within.idx lo hi l 0)) ∧ w' = w := by
  have hl63 := hC.2.1
  have HC := Aside0.mk hC
  have H1 := Aside0.mk h1
  have H2 := Aside0.mk h2
  clear hC h1 h2
  obtain ⟨r, hr⟩ : ∃ r, close_within.idx lo hi l 0 = r := ⟨_, rfl⟩
  rw [hr]
  replace hr := Aside0.mk hr
  go_enter Try.func47, Try.ntmps47
  go_wp2_with fail
  go_loopw [8] (fun u wr => ∃ i : Nat, i ≤ l.length ∧ u = .int .i64 i ∧ Aside0 (close_within.idx lo hi (l.drop i) i = r) ∧ wr = w) (fun u _ => l.length - (intOf u).toNat)
  case atStart => exact ⟨0, Nat.zero_le _, rfl, hr, rfl⟩
  case round =>
    clear hr
    obtain ⟨i, hil, rfl, hr, rfl⟩ := hrel
    by_cases hlt : i < l.length
    case neg =>
      obtain rfl : i = l.length := by omega
      obtain rfl : (-1 : Int) = r := by have := hr.out; rw [List.drop_length] at this; exact this
      clear hr
      go_wp2_with fail
      go_ret
      exact ⟨rfl, rfl⟩
    obtain ⟨ad, hA, hx⟩ := close_within.at_ HC.out hlt
    have hr' := hr.out
    rw [List.drop_eq_getElem_cons hlt, close_within.idx] at hr'
    generalize l[i] = x at hx hr'
    replace hr := Aside0.mk hr'
    have HA := Aside0.mk hA
    clear hr'
    have hcl := fun w => close_within.c26 x lo hi (w := w) (g1 := g1) (g2 := g2)
    subst hA
    go_wp2_with ((with_reducible refine gate_dst (N := 16) rfl ?_); refine wpl_callv (.tmp 11) _ _ rfl rfl 26 close_within.ok26 #[.pointer (some ⟨g1, 0, none⟩), .pointer (some ⟨g2, 0, none⟩)] rfl #[.int .i64 x, .pointer (some ⟨g1, 0, none⟩), .pointer (some ⟨g2, 0, none⟩)] rfl ?_)
    refine (hcl _ H1.out H2.out).mono ?_
    rintro e w2 ⟨rfl, rfl⟩
    clear hcl
    by_cases hb : x < lo ∨ x > hi
    case pos =>
      have hd : (decide (x < lo) || decide (x > hi)) = true := by rcases hb with hb | hb <;> simp [hb]
      obtain rfl : (i : Int) = r := by have := hr.out; rwa [if_pos hb] at this
      rw [hd]
      clear hr hd hb
      go_wp2_with fail
      go_ret
      exact ⟨rfl, rfl⟩
    have hd : (decide (x < lo) || decide (x > hi)) = false := by
      rw [decide_eq_false (fun h => hb (.inl h)), decide_eq_false (fun h => hb (.inr h))]; rfl
    have hr' := hr.out
    rw [if_neg hb] at hr'
    replace hr := Aside0.mk hr'
    clear hr'
    rw [hd]
    clear hd hb
    go_wp2_with fail
    go_roundw
    case rel => exact ⟨i + 1, by omega, by go_num, hr, by first | trivial | rfl⟩
    case measure => simp [intOf]; omega
set_option maxHeartbeats 4000000 in
set_option maxRecDepth 100000 in
theorem close_within.c25 (lo hi : Int) {w : World} {A : Option Addr} {c : Nat} {l : List Int} (hC : Kd.C (Kd.int .i64) w A l.length l) {g1 g2 : Nat} (h1 : w.heap[g1]? = some (.cells #[.int .i64 lo] 2 (0, 0))) (h2 : w.heap[g2]? = some (.cells #[.int .i64 hi] 2 (0, 0))) {b : Bool} (hb : decide (∀ x ∈ l, lo ≤ x ∧ x ≤ hi) = b) : Calls Try.prog 25 #[.slice A l.length c, .func (.func 26) #[] #[.pointer (some ⟨g1, 0, none⟩), .pointer (some ⟨g2, 0, none⟩)]] w fun e w' => e = .returned (.bool (!b)) ∧ w' = w := by
  have hge := close_within.idx_ge lo hi l 0
  rw [hb] at hge
  have H47 := Aside0.mk (close_within.c47 (c := c) lo hi hC h1 h2)
  generalize close_within.idx lo hi l 0 = r at H47 hge
  clear hb hC h1 h2
  go_enter Try.func25, Try.ntmps25
  go_wp2_with fail
  refine H47.out.mono ?_
  rintro e w2 ⟨rfl, rfl⟩
  clear H47
  cases b
  case true =>
    have hr : ¬ 0 ≤ r := fun h => by have h2 : decide (r ≥ 0) = true := decide_eq_true h; rw [h2] at hge; cases hge
    clear hge
    go_wp2_with fail
    go_ret
    first | exact ⟨rfl, rfl⟩ | (simp; omega)
  case false =>
    have hr : 0 ≤ r := by
      apply Decidable.byContradiction
      intro h
      have h2 : decide (r ≥ 0) = false := decide_eq_false h
      rw [h2] at hge
      cases hge
    clear hge
    go_wp2_with fail
    go_ret
    first | exact ⟨rfl, rfl⟩ | simp
set_option maxHeartbeats 4000000 in
set_option maxRecDepth 100000 in
/-- Do all lie within? -/
theorem close_within.calls (lo hi : Int) {w : World} {A : Option Addr} {c : Nat} {l : List Int} (hC : Kd.C (Kd.int .i64) w A l.length l) {b : Bool} (hb : decide (∀ x ∈ l, lo ≤ x ∧ x ≤ hi) = b) : Calls Try.prog 14 #[.int .i64 lo, .int .i64 hi, .slice A l.length c] w fun e w' => e = .returned (.bool b) ∧ Below w.heap.size w w' := by
  have HB := below_alloc (below_alloc (Below.refl w.heap.size w) (.cells #[.int .i64 lo] 2)) (.cells #[.int .i64 hi] 2)
  have HC := Kd.C_below hC HB
  have s1 : (w.alloc (.cells #[.int .i64 lo] 2)).heap.size = w.heap.size + 1 := by simp
  have k0 := blk_alloc (blk_new w (.cells #[.int .i64 lo] 2)) (.cells #[.int .i64 hi] 2)
  have k1 := blk_new (w.alloc (.cells #[.int .i64 lo] 2)) (.cells #[.int .i64 hi] 2)
  rw [s1] at k1
  have H25 := Aside0.mk (close_within.c25 (c := c) lo hi HC k0 k1 hb)
  replace HB := Aside0.mk HB
  clear hb hC HC k0 k1 s1
  go_enter Try.func14, Try.ntmps14
  go_wp2_with fail
  refine H25.out.mono ?_
  rintro e w2 ⟨rfl, rfl⟩
  clear H25
  go_wp2_with fail
  go_ret
  first | exact ⟨rfl, HB.out⟩ | (rw [Bool.not_not]; exact ⟨rfl, HB.out⟩)


end Go.Proofs.Ytpcllhhbaockfaa.Print
