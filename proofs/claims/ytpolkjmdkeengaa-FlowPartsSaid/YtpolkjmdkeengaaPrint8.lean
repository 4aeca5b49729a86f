-- written by this session's program wip/hybrid.py over the kit's printer, and by hand. Not trusted: Lean checks it.
import Derived.Test.YtpolkjmdkeengaaPrint0
import Derived.Test.YtpolkjmdkeengaaPrint4
import Derived.Test.YtpolkjmdkeengaaPrint6
import Derived.Test.YtpolkjmdkeengaaPrint7
namespace Go.Proofs.Ytpolkjmdkeengaa.Print
open Go.RowKit Go.Proofs.YtpolkjmdkeengaaW.PrintWords Go.Proofs.YtpolkjmdkeengaaW.PrintLast Go.Proofs.YtpolkjmdkeengaaW.PrintMore
attribute [local go_sem] max2_int min2_int max_two min_two max_three min_three max_four min_four   -- for this text's walks alone
set_option linter.unusedVariables false
set_option linter.unusedSimpArgs false

/-! ### flow_Merge: function 9 -/
def flow_Merge.e (l : List S39) : Int := if 600 < l.length then 10 else flow_Flow_29.rise 0 l
theorem flow_Merge.e_eq (l : List S39) : flow_Check.f l = some (flow_Merge.e l) := rfl
def flow_Merge.g2 (r : List S39 × Bool) : List S39 × Int := if r.2 = false then ([], 3) else if 600 < r.1.length then ([], 10) else (r.1, 0)
def flow_Merge.g (l0 l1 : List S39) : List S39 × Int :=
  if flow_Merge.e l0 ≠ 0 then ([], flow_Merge.e l0) else if flow_Merge.e l1 ≠ 0 then ([], flow_Merge.e l1) else
  if (flow_Flow_22.zip (l0.length + l1.length) l0 l1 []).2 = false then ([], 3) else
  if 600 < (flow_Flow_22.zip (l0.length + l1.length) l0 l1 []).1.length then ([], 10) else ((flow_Flow_22.zip (l0.length + l1.length) l0 l1 []).1, 0)
def flow_Merge.f (l0 l1 : List S39) : Option (List S39 × Int) := some (flow_Merge.g l0 l1)
theorem flow_Merge.rise_amt (last : Int) (l : List S39) (h : flow_Flow_29.rise last l = 0) : flow_Flow_22.amt l := by
  induction l generalizing last with
  | nil => intro f hf; cases hf
  | cons x t ih =>
    rw [flow_Flow_29.rise] at h
    split at h
    · cases h
    · split at h
      · cases h
      · split at h
        · rename_i hx
          intro f hf
          rcases List.mem_cons.1 hf with rfl | hf
          · exact hx
          · exact ih _ h f hf
        · cases h
theorem flow_Merge.e_in {w : World} {A : Option Addr} {c : Nat} {l : List S39} (h : flow_Merge.e l = 0) (hr : Kd.C k39 w A l.length l) (hc : l.length ≤ c) : flow_Flow_22.In w A l.length c l ∧ l.length ≤ 700 := by
  unfold flow_Merge.e at h
  split at h
  · cases h
  · exact ⟨⟨hr, rfl, hc, flow_Merge.rise_amt 0 l h⟩, by omega⟩
set_option maxHeartbeats 4000000 in
set_option maxRecDepth 100000 in
theorem flow_Merge.calls (A0 : Option Addr) (c0 : Nat) (l0 : List (S39)) (A1 : Option Addr) (c1 : Nat) (l1 : List (S39)) (r1 : List (S39)) (r2 : Int) (w : World) (hr0 : Kd.C k39 w A0 l0.length l0) (hc0 : l0.length ≤ c0) (hr1 : Kd.C k39 w A1 l1.length l1) (hc1 : l1.length ≤ c1) (h : flow_Merge.f l0 l1 = some (r1, r2)) :
    Calls Try.prog 9 #[.slice A0 l0.length c0, .slice A1 l1.length c1] w fun e w' => ∃ v0_ : Value, e = .returned (.tuple #[v0_, .int .i64 r2]) ∧ Kd.R k39 39 w' w.heap.size (fun _ => True) v0_ r1 ∧ Below w.heap.size w w' := by
  have HR0 := Aside0.mk hr0
  have HR1 := Aside0.mk hr1
  have hrr : flow_Merge.g l0 l1 = (r1, r2) := Option.some.inj h
  clear h hr0 hr1
  unfold flow_Merge.g at hrr
  have hi0 : ∀ w, (Instr.index 54 (.agg #[.slice A0 l0.length c0, .slice A1 l1.length c1]) (.int .i64 0)).run Try.prog w = .ok (.slice A0 l0.length c0) w := fun _ => by kernel_rfl
  have hi1 : ∀ w, (Instr.index 54 (.agg #[.slice A0 l0.length c0, .slice A1 l1.length c1]) (.int .i64 1)).run Try.prog w = .ok (.slice A1 l1.length c1) w := fun _ => by kernel_rfl
  by_cases e0 : flow_Merge.e l0 = 0
  · rw [if_neg (by simpa using e0)] at hrr
    by_cases e1 : flow_Merge.e l1 = 0
    · rw [if_neg (by simpa using e1)] at hrr
      have HH := Aside0.mk hrr
      clear hrr
      obtain ⟨hi0, hl0⟩ := flow_Merge.e_in e0 HR0.out hc0
      obtain ⟨hi1, hl1⟩ := flow_Merge.e_in e1 HR1.out hc1
      have HI0 := Aside0.mk hi0
      have HI1 := Aside0.mk hi1
      have HF0 := Aside0.mk (show flow_Check.f l0 = some 0 by rw [flow_Merge.e_eq, e0])
      have HF1 := Aside0.mk (show flow_Check.f l1 = some 0 by rw [flow_Merge.e_eq, e1])
      clear e0 e1 hi0 hi1
      go_enter Try.func9, Try.ntmps9
      go_wp2
      refine wp_loop_rounds 3 ?_
      rw [rounds_succ]
      go_wp2_with (go_at_call 17; (with_reducible refine (flow_Check.calls A0 c0 l0 0 w HR0.out hc0 HF0.out).mono ?_); rintro e w1 ⟨rfl, hb⟩; have HB1 := Aside0.mk hb; clear hb)
      rw [rounds_succ]
      go_wp2_with (go_at_call 17; (with_reducible refine (flow_Check.calls A1 c1 l1 0 w1 (Kd.C_below HR1.out HB1.out) hc1 HF1.out).mono ?_); rintro e w2 ⟨rfl, hb⟩; have HB2 := Aside0.mk (below_step HB1.out hb); clear hb)
      rw [rounds_succ]
      have HP : Aside0 (flow_Merge.g2 (flow_Flow_22.zip (l0.length + l1.length) l0 l1 []) = (r1, r2)) := ⟨HH.out⟩
      clear HH
      obtain ⟨rl, rb, hz⟩ : ∃ rl rb, flow_Flow_22.zip (l0.length + l1.length) l0 l1 [] = (rl, rb) := ⟨_, _, rfl⟩
      rw [hz] at HP
      have HZ := Aside0.mk hz
      clear hz
      go_wp2_with fail
      have hgo := flow_Flow_22.go_ A0 A1 c0 c1 l0.length l1.length l0 l1 w2 ((w2.alloc (.cells #[.slice none 0 0] 24)).alloc (.cells #[.bool true] 4)) w2.heap.size (w2.heap.size + 1) w2.heap.size (.slice none 0 0) []
        ⟨Kd.C_below HI0.out.hc HB2.out, rfl, hc0, HI0.out.ham⟩ ⟨Kd.C_below HI1.out.hc HB2.out, rfl, hc1, HI1.out.ham⟩ hl0 hl1
        ⟨blk_new2 w2 _ _, blk_alloc (blk_new w2 _) _, Kd.R_nil _ _ _ _ _⟩ (by omega) (Nat.le_refl _) (Nat.le_refl _) (below_alloc (below_alloc (Below.refl _ _) _) _) rfl
      rw [HZ.out] at hgo
      with_reducible refine hgo.mono ?_
      clear hgo
      rintro e w3 ⟨rfl, v', hV, hB3⟩
      have HV := Aside0.mk hV
      have HB3 := Aside0.mk (below_step HB2.out hB3)
      obtain ⟨A8, c8, rfl⟩ := Kd.R_slice hV.hr
      have hk0 : w3.cell? ⟨w2.heap.size + 1, 0, none⟩ = some (.bool rb) := blk_cell hV.hk 0
      have ho0 : w3.cell? ⟨w2.heap.size, 0, none⟩ = some (.slice A8 rl.length c8) := blk_cell hV.ho 0
      clear hV hB3
      cases rb with
      | false =>
        have hr := HP.out
        simp only [flow_Merge.g2, if_true, Prod.mk.injEq] at hr
        obtain ⟨rfl, rfl⟩ := hr
        go_wp2
        go_ret2
        exact ⟨_, rfl, Kd.R_nil _ _ _ _ _, HB3.out⟩
      | true =>
        by_cases hlen : 600 < rl.length
        · have hr := HP.out
          simp only [flow_Merge.g2, Bool.true_eq_false, if_false, if_pos hlen, Prod.mk.injEq] at hr
          obtain ⟨rfl, rfl⟩ := hr
          have hb : decide ((600 : Int) < (rl.length : Int)) = true := by simpa using (by omega : (600 : Int) < (rl.length : Int))
          go_wp2
          go_ret2
          exact ⟨_, rfl, Kd.R_nil _ _ _ _ _, HB3.out⟩
        · have hr := HP.out
          simp only [flow_Merge.g2, Bool.true_eq_false, if_false, if_neg hlen, Prod.mk.injEq] at hr
          obtain ⟨rfl, rfl⟩ := hr
          have hb : decide ((600 : Int) < (rl.length : Int)) = false := by simpa using (by omega : ¬ (600 : Int) < (rl.length : Int))
          go_wp2
          go_ret2
          exact ⟨_, rfl, Kd.R_lower HV.out.hr HB2.out.size, HB3.out⟩
    · have HR := Aside0.mk hrr
      rw [if_pos (by simpa using e1)] at hrr
      simp only [Prod.mk.injEq] at hrr
      obtain ⟨rfl, rfl⟩ := hrr
      have HF0 := Aside0.mk (show flow_Check.f l0 = some 0 by rw [flow_Merge.e_eq, e0])
      have HF1 := Aside0.mk (flow_Merge.e_eq l1)
      have eb : (flow_Merge.e l1 == 0) = false := by simpa using e1
      clear e0 e1 HR
      go_enter Try.func9, Try.ntmps9
      go_wp2
      refine wp_loop_rounds 3 ?_
      rw [rounds_succ]
      go_wp2_with (go_at_call 17; (with_reducible refine (flow_Check.calls A0 c0 l0 0 w HR0.out hc0 HF0.out).mono ?_); rintro e w1 ⟨rfl, hb⟩; have HB1 := Aside0.mk hb; clear hb)
      rw [rounds_succ]
      go_wp2_with (go_at_call 17; (with_reducible refine (flow_Check.calls A1 c1 l1 _ w1 (Kd.C_below HR1.out HB1.out) hc1 HF1.out).mono ?_); rintro e w2 ⟨rfl, hb⟩; have HB2 := Aside0.mk (below_step HB1.out hb); clear hb)
      go_ret2
      exact ⟨_, rfl, Kd.R_nil _ _ _ _ _, HB2.out⟩
  · rw [if_pos (by simpa using e0)] at hrr
    simp only [Prod.mk.injEq] at hrr
    obtain ⟨rfl, rfl⟩ := hrr
    have HF0 := Aside0.mk (flow_Merge.e_eq l0)
    have eb : (flow_Merge.e l0 == 0) = false := by simpa using e0
    clear e0
    go_enter Try.func9, Try.ntmps9
    go_wp2
    refine wp_loop_rounds 3 ?_
    rw [rounds_succ]
    go_wp2_with (go_at_call 17; (with_reducible refine (flow_Check.calls A0 c0 l0 _ w HR0.out hc0 HF0.out).mono ?_); rintro e w1 ⟨rfl, hb⟩; have HB1 := Aside0.mk hb; clear hb)
    go_ret2
    exact ⟨_, rfl, Kd.R_nil _ _ _ _ _, HB1.out⟩


end Go.Proofs.Ytpolkjmdkeengaa.Print
