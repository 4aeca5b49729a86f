-- written by this session's program wip/hybrid.py over the kit's printer, and by hand. Not trusted: Lean checks it.
import Derived.Test.YtepgponpnijonaaPrint0
import Derived.Test.YtepgponpnijonaaPrint6
namespace Go.Proofs.Ytepgponpnijonaa.Print
open Go.RowKit Go.Proofs.YtepgponpnijonaaW.PrintWords Go.Proofs.YtepgponpnijonaaW.PrintLast Go.Proofs.YtepgponpnijonaaW.PrintMore
attribute [local go_sem] max2_int min2_int max_two min_two max_three min_three max_four min_four   -- for this text's walks alone
set_option linter.unusedVariables false
set_option linter.unusedSimpArgs false

/-! ### batch_Check: function 14 -/
def batch_Check.f (k : Nat) (a0_0 : Int) (a0_1 : Int) (a0_2 : List S53) : Option Int := if a0_0 < 0 ∨ 2147483647 < a0_0 ∨ a0_1 < 0 ∨ 2147483647 < a0_1 then some 2 else if (a0_2.length : Int) = 0 then some 0 else chart_Check.f k a0_2
theorem batch_Check.mono : ∀ a0 a1 l k, LeO (batch_Check.f k a0 a1 l) (batch_Check.f (k + 1) a0 a1 l) := by
  intro a0 a1 l k
  unfold batch_Check.f
  by_cases c : a0 < 0 ∨ 2147483647 < a0 ∨ a1 < 0 ∨ 2147483647 < a1
  · rw [if_pos c, if_pos c]; exact fun r h => h
  · rw [if_neg c, if_neg c]
    by_cases d : (l.length : Int) = 0
    · rw [if_pos d, if_pos d]; exact fun r h => h
    · rw [if_neg d, if_neg d]; exact chart_Check.mono l k
set_option maxHeartbeats 2000000 in
theorem batch_Check.b0 (a0 a1 : Int) (v : Value) (w : World) (h1 : a0 < 0) : Calls Try.prog 14 #[.agg #[.int .i64 a0, .int .i64 a1, v]] w fun e w' => e = .returned (.int .i64 2) ∧ Below w.heap.size w w' := by
  have hix0 : ∀ (x0 x1 : Value) (W : World), (Instr.index 60 (.agg #[x0, x1]) (.int .i64 0)).run Try.prog W = .ok x0 W := fun _ _ _ => by kernel_rfl
  have hix1 : ∀ (x0 x1 : Value) (W : World), (Instr.index 60 (.agg #[x0, x1]) (.int .i64 1)).run Try.prog W = .ok x1 W := fun _ _ _ => by kernel_rfl
  go_enter Try.func14, Try.ntmps14
  go_wp2
  go_rounds 3
  go_ret
  exact ⟨rfl, by repeat (first | exact Below.refl _ _ | apply below_alloc | apply pw_below_drewN | apply below_drew1 | refine below_set ?_ (by first | (simp; done) | (simp; omega)))⟩
set_option maxHeartbeats 2000000 in
theorem batch_Check.b1 (a0 a1 : Int) (v : Value) (w : World) (h0 : ¬ a0 < 0) (h1 : 2147483647 < a0) : Calls Try.prog 14 #[.agg #[.int .i64 a0, .int .i64 a1, v]] w fun e w' => e = .returned (.int .i64 2) ∧ Below w.heap.size w w' := by
  have hix0 : ∀ (x0 x1 : Value) (W : World), (Instr.index 60 (.agg #[x0, x1]) (.int .i64 0)).run Try.prog W = .ok x0 W := fun _ _ _ => by kernel_rfl
  have hix1 : ∀ (x0 x1 : Value) (W : World), (Instr.index 60 (.agg #[x0, x1]) (.int .i64 1)).run Try.prog W = .ok x1 W := fun _ _ _ => by kernel_rfl
  go_enter Try.func14, Try.ntmps14
  go_wp2
  go_rounds 3
  go_ret
  exact ⟨rfl, by repeat (first | exact Below.refl _ _ | apply below_alloc | apply pw_below_drewN | apply below_drew1 | refine below_set ?_ (by first | (simp; done) | (simp; omega)))⟩
set_option maxHeartbeats 2000000 in
theorem batch_Check.b2 (a0 a1 : Int) (v : Value) (w : World) (h0 : ¬ a0 < 0) (h1 : ¬ 2147483647 < a0) (h2 : a1 < 0) : Calls Try.prog 14 #[.agg #[.int .i64 a0, .int .i64 a1, v]] w fun e w' => e = .returned (.int .i64 2) ∧ Below w.heap.size w w' := by
  have hix0 : ∀ (x0 x1 : Value) (W : World), (Instr.index 60 (.agg #[x0, x1]) (.int .i64 0)).run Try.prog W = .ok x0 W := fun _ _ _ => by kernel_rfl
  have hix1 : ∀ (x0 x1 : Value) (W : World), (Instr.index 60 (.agg #[x0, x1]) (.int .i64 1)).run Try.prog W = .ok x1 W := fun _ _ _ => by kernel_rfl
  go_enter Try.func14, Try.ntmps14
  go_wp2
  go_rounds 3
  go_ret
  exact ⟨rfl, by repeat (first | exact Below.refl _ _ | apply below_alloc | apply pw_below_drewN | apply below_drew1 | refine below_set ?_ (by first | (simp; done) | (simp; omega)))⟩
set_option maxHeartbeats 2000000 in
theorem batch_Check.b3 (a0 a1 : Int) (v : Value) (w : World) (h0 : ¬ a0 < 0) (h1 : ¬ 2147483647 < a0) (h2 : ¬ a1 < 0) (h3 : 2147483647 < a1) : Calls Try.prog 14 #[.agg #[.int .i64 a0, .int .i64 a1, v]] w fun e w' => e = .returned (.int .i64 2) ∧ Below w.heap.size w w' := by
  have hix0 : ∀ (x0 x1 : Value) (W : World), (Instr.index 60 (.agg #[x0, x1]) (.int .i64 0)).run Try.prog W = .ok x0 W := fun _ _ _ => by kernel_rfl
  have hix1 : ∀ (x0 x1 : Value) (W : World), (Instr.index 60 (.agg #[x0, x1]) (.int .i64 1)).run Try.prog W = .ok x1 W := fun _ _ _ => by kernel_rfl
  go_enter Try.func14, Try.ntmps14
  go_wp2
  go_rounds 3
  go_ret
  exact ⟨rfl, by repeat (first | exact Below.refl _ _ | apply below_alloc | apply pw_below_drewN | apply below_drew1 | refine below_set ?_ (by first | (simp; done) | (simp; omega)))⟩
set_option maxHeartbeats 2000000 in
theorem batch_Check.none_ (a0 a1 : Int) (A : Option Addr) (c : Nat) (w : World) (h0 : ¬ a0 < 0) (h1 : ¬ 2147483647 < a0) (h2 : ¬ a1 < 0) (h3 : ¬ 2147483647 < a1) : Calls Try.prog 14 #[.agg #[.int .i64 a0, .int .i64 a1, .slice A 0 c]] w fun e w' => e = .returned (.int .i64 0) ∧ Below w.heap.size w w' := by
  have hix0 : ∀ (x0 x1 : Value) (W : World), (Instr.index 60 (.agg #[x0, x1]) (.int .i64 0)).run Try.prog W = .ok x0 W := fun _ _ _ => by kernel_rfl
  have hix1 : ∀ (x0 x1 : Value) (W : World), (Instr.index 60 (.agg #[x0, x1]) (.int .i64 1)).run Try.prog W = .ok x1 W := fun _ _ _ => by kernel_rfl
  go_enter Try.func14, Try.ntmps14
  go_wp2
  go_rounds 3
  go_ret
  exact ⟨rfl, by repeat (first | exact Below.refl _ _ | apply below_alloc | apply pw_below_drewN | apply below_drew1 | refine below_set ?_ (by first | (simp; done) | (simp; omega)))⟩
set_option maxHeartbeats 2000000 in
theorem batch_Check.some_ (k : Nat) (a0 a1 : Int) (A : Option Addr) (c : Nat) (l : List S53) (r : Int) (w : World) (hr : Kd.C k53 w A l.length l) (hc : l.length ≤ c) (h0 : ¬ a0 < 0) (h1 : ¬ 2147483647 < a0) (h2 : ¬ a1 < 0) (h3 : ¬ 2147483647 < a1) (hl : ¬ (l.length : Int) = 0) (h : chart_Check.f k l = some r) :
    Calls Try.prog 14 #[.agg #[.int .i64 a0, .int .i64 a1, .slice A l.length c]] w fun e w' => e = .returned (.int .i64 r) ∧ Below w.heap.size w w' := by
  have hix0 : ∀ (x0 x1 : Value) (W : World), (Instr.index 60 (.agg #[x0, x1]) (.int .i64 0)).run Try.prog W = .ok x0 W := fun _ _ _ => by kernel_rfl
  have hix1 : ∀ (x0 x1 : Value) (W : World), (Instr.index 60 (.agg #[x0, x1]) (.int .i64 1)).run Try.prog W = .ok x1 W := fun _ _ _ => by kernel_rfl
  have HR := Aside0.mk hr
  have H := Aside0.mk h
  clear hr h
  go_enter Try.func14, Try.ntmps14
  go_wp2
  refine wp_loop_rounds 3 ?_
  repeat any_goals (rw [rounds_succ]; go_wp2_with (go_at_call 27; refine (chart_Check.calls k _ _ _ _ _ (by repeat (first | exact HR.out | (with_reducible refine Kd.C_alloc ?_ _))) hc H.out).mono ?_; rintro e w1 ⟨rfl, hb⟩; have HB1 := Aside0.mk hb; clear hb))
  go_ret
  exact ⟨rfl, below_step (below_alloc (Below.refl _ _) _) HB1.out⟩
theorem batch_Check.calls (k : Nat) (a0_0 : Int) (a0_1 : Int) (A0_2 : Option Addr) (c0_2 : Nat) (l0_2 : List (S53)) (r : Int) (w : World) (hr0_2 : Kd.C k53 w A0_2 l0_2.length l0_2) (hc0_2 : l0_2.length ≤ c0_2) (h : batch_Check.f k a0_0 a0_1 l0_2 = some r) :
    Calls Try.prog 14 #[.agg #[.int .i64 a0_0, .int .i64 a0_1, .slice A0_2 l0_2.length c0_2]] w fun e w' => e = .returned (.int .i64 r) ∧ Below w.heap.size w w' := by
  have HR := hr0_2
  unfold batch_Check.f at h
  by_cases c : a0_0 < 0 ∨ 2147483647 < a0_0 ∨ a0_1 < 0 ∨ 2147483647 < a0_1
  · rw [if_pos c] at h
    obtain rfl := Option.some.inj h
    by_cases c0 : a0_0 < 0
    · exact batch_Check.b0 _ _ _ _ c0
    by_cases c1 : 2147483647 < a0_0
    · exact batch_Check.b1 _ _ _ _ c0 c1
    by_cases c2 : a0_1 < 0
    · exact batch_Check.b2 _ _ _ _ c0 c1 c2
    exact batch_Check.b3 _ _ _ _ c0 c1 c2 (by omega)
  · rw [if_neg c] at h
    by_cases d : (l0_2.length : Int) = 0
    · rw [if_pos d] at h
      obtain rfl := Option.some.inj h
      have e : l0_2.length = 0 := by omega
      rw [e]
      exact batch_Check.none_ _ _ _ _ _ (by omega) (by omega) (by omega) (by omega)
    · rw [if_neg d] at h
      exact batch_Check.some_ k _ _ _ _ _ _ _ hr0_2 hc0_2 (by omega) (by omega) (by omega) (by omega) d h


end Go.Proofs.Ytepgponpnijonaa.Print
