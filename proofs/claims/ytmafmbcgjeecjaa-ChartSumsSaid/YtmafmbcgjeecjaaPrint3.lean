-- written by this session's program wip/hybrid.py over the kit's printer, and by hand. Not trusted: Lean checks it.
import Derived.Test.YtmafmbcgjeecjaaPrint0
import Derived.Test.YtmafmbcgjeecjaaPrint2
namespace Go.Proofs.Ytmafmbcgjeecjaa.Print
open Go.RowKit Go.Proofs.YtmafmbcgjeecjaaW.PrintWords Go.Proofs.YtmafmbcgjeecjaaW.PrintLast Go.Proofs.YtmafmbcgjeecjaaW.PrintMore
attribute [local go_sem] max2_int min2_int max_two min_two max_three min_three max_four min_four   -- for this text's walks alone
set_option linter.unusedVariables false
set_option linter.unusedSimpArgs false

/-! ### chart_entries: function 22 -/
def chart_entries.m : List (Int × Value) := [(1, .agg #[.int .i64 2, .int .i64 1, .bool false]), (2, .agg #[.int .i64 2, .int .i64 4, .bool true]), (3, .agg #[.int .i64 1, .int .i64 2, .bool false]), (4, .agg #[.int .i64 2, .int .i64 5, .bool true]), (5, .agg #[.int .i64 6, .int .i64 3, .bool true]), (6, .agg #[.int .i64 3, .int .i64 2, .bool false]), (7, .agg #[.int .i64 1, .int .i64 7, .bool false])]
set_option maxHeartbeats 1000000 in
theorem chart_entries.calls (w : World) : Calls Try.prog 22 #[] w fun e w' => ∃ g, w.heap.size ≤ g ∧ e = .returned (.map (some g)) ∧ MapAt w' g chart_entries.m ∧ Below w.heap.size w w' := by
  have hmm := @run_makeMap Try.prog
  go_enter Try.func22, Try.ntmps22
  have h0 := Aside0.mk (MapAt.made w)
  have b0 := Aside0.mk (below_alloc (Below.refl w.heap.size w) (.map #[] 0))
  go_wp2_with (with_reducible refine wpList_insert_map rfl 52 _ _ _ rfl Try.underlying52 Try.underlying3 _ rfl rfl h0.out ?_; intro w1 hm1 hp1; (have b1 := Aside0.mk (hp1.below b0.out (Nat.le_refl _))); clear h0 b0 hp1; (have h0 := Aside0.mk hm1); (have b0 := b1); clear hm1 b1)
  go_ret
  exact ⟨w.heap.size, Nat.le_refl _, rfl, h0.out, b0.out⟩


end Go.Proofs.Ytmafmbcgjeecjaa.Print
