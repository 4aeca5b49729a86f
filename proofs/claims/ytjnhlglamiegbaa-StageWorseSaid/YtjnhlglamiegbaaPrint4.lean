-- written by this session's program wip/hybrid.py over the kit's printer, and by hand. Not trusted: Lean checks it.
import Derived.Test.YtjnhlglamiegbaaPrint0
namespace Go.Proofs.Ytjnhlglamiegbaa.Print
open Go.RowKit Go.Proofs.YtjnhlglamiegbaaW.PrintWords Go.Proofs.YtjnhlglamiegbaaW.PrintLast Go.Proofs.YtjnhlglamiegbaaW.PrintMore
attribute [local go_sem] max2_int min2_int max_two min_two max_three min_three max_four min_four   -- for this text's walks alone
set_option linter.unusedVariables false
set_option linter.unusedSimpArgs false

/-! ### stage_Worst: function 11 -/
def stage_Worst.f (a0_0 : Int) (a0_1 : Int) (a0_2 : Bool) : Option (Int) := some (if a0_2 = true then 3 else if 90 ≤ a0_0 then 3 else if 30 ≤ a0_0 then 2 else if 3 ≤ a0_1 then 2 else 1)
set_option maxHeartbeats 1000000 in
theorem stage_Worst.walk0 (p d : Int) (b : Bool) (w : World) : Calls Try.prog 11 #[.agg #[.int .i64 p, .int .i64 d, .bool b]] w fun e w' => e = .returned (.int .i64 (if b = true then 3 else if 90 ≤ p then 3 else if 30 ≤ p then 2 else if 3 ≤ d then 2 else 1)) ∧ Below w.heap.size w w' := by
  cases b
  · by_cases h1 : 90 ≤ p
    · go_enter Try.func11, Try.ntmps11
      go_wp2
      go_rounds 4
      go_ret
      exact ⟨by simp [*], by repeat (first | exact Below.refl _ _ | apply below_alloc | apply pw_below_drewN | apply below_drew1)⟩
    · by_cases h2 : 30 ≤ p
      · go_enter Try.func11, Try.ntmps11
        go_wp2
        go_rounds 4
        go_ret
        exact ⟨by simp [*], by repeat (first | exact Below.refl _ _ | apply below_alloc | apply pw_below_drewN | apply below_drew1)⟩
      · by_cases h3 : 3 ≤ d
        · go_enter Try.func11, Try.ntmps11
          go_wp2
          go_rounds 4
          go_ret
          exact ⟨by simp [*], by repeat (first | exact Below.refl _ _ | apply below_alloc | apply pw_below_drewN | apply below_drew1)⟩
        · go_enter Try.func11, Try.ntmps11
          go_wp2
          go_rounds 4
          go_ret
          exact ⟨by simp [*], by repeat (first | exact Below.refl _ _ | apply below_alloc | apply pw_below_drewN | apply below_drew1)⟩
  · go_enter Try.func11, Try.ntmps11
    go_wp2
    go_rounds 4
    go_ret
    exact ⟨by simp [*], by repeat (first | exact Below.refl _ _ | apply below_alloc | apply pw_below_drewN | apply below_drew1)⟩
theorem stage_Worst.calls (a0_0 : Int) (a0_1 : Int) (a0_2 : Bool) (r : Int) (w : World) (h : stage_Worst.f a0_0 a0_1 a0_2 = some r) :
    Calls Try.prog 11 #[.agg #[.int .i64 a0_0, .int .i64 a0_1, .bool a0_2]] w fun e w' => e = .returned (.int .i64 r) ∧ Below w.heap.size w w' := by
  unfold stage_Worst.f at h
  obtain rfl := Option.some.inj h
  exact stage_Worst.walk0 _ _ _ w


end Go.Proofs.Ytjnhlglamiegbaa.Print
