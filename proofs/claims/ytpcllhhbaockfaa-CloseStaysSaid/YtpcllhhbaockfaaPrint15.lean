-- written by this session's program wip/hybrid.py over the kit's printer, and by hand. Not trusted: Lean checks it.
import Derived.Test.YtpcllhhbaockfaaPrint0
import Derived.Test.YtpcllhhbaockfaaPrint1
import Derived.Test.YtpcllhhbaockfaaPrint12
import Derived.Test.YtpcllhhbaockfaaPrint13
namespace Go.Proofs.Ytpcllhhbaockfaa.Print
open Go.RowKit Go.Proofs.YtpcllhhbaockfaaW.PrintWords Go.Proofs.YtpcllhhbaockfaaW.PrintLast Go.Proofs.YtpcllhhbaockfaaW.PrintMore
attribute [local go_sem] max2_int min2_int max_two min_two max_three min_three max_four min_four   -- for this text's walks alone
set_option linter.unusedVariables false
set_option linter.unusedSimpArgs false

/-! ### close_Closer_Now: function 11 -/
set_option maxHeartbeats 4000000 in
set_option maxRecDepth 100000 in
theorem close_Closer_Now.calls (x : Rep) {pv cv : Value} {t : Int} {w : World} {p : Nat} (hp : w.heap[p]? = some (.cells (ccells pv x t cv) 57 (0, 0))) : Calls Try.prog 11 #[.pointer (some ⟨p, 0, none⟩)] w fun e w' => e = .returned (.tuple #[.agg x.cs, .int .i64 0]) ∧ Below w.heap.size w w' := by
  have hb := below_alloc (Below.refl w.heap.size w) (.cells Rep.z.cs 41)
  have k0 := blk_new w (.cells Rep.z.cs 41)
  have HB := Aside0.mk hb
  have H2 := Aside0.mk k0
  have HP := Aside0.mk (blk_below hp hb)
  clear hb k0 hp
  go_enter Try.func11, Try.ntmps11
  go_upto_region 1 with fail
  change Code.wp _ _ _ _ (w.alloc (.cells Rep.z.cs 41))
  obtain ⟨g2, hg2⟩ : ∃ g, g = w.heap.size := ⟨_, rfl⟩
  have ge2 := Aside0.mk (Nat.le_of_eq hg2.symm)
  rw [← hg2] at H2 ⊢
  generalize w.alloc (.cells Rep.z.cs 41) = w1 at HB H2 HP ⊢
  clear hg2
  go_wp2_with (first | ((with_reducible refine gate_dst (N := 10) rfl ?_); refine wpl_value rfl (load_run_at 41 (.tmp 9) rfl ⟨p, 1, none⟩ rfl x.cs.toList _ (now_st _ x _ _ HP.out) Try.underlying41 rfl (by kernel_rfl)) ?_) | ((with_reducible refine gate_store (t := 41) (p := 2) (v := .tmp 10) rfl ?_); refine store_rowTo rfl 41 (.tmp 2) (.tmp 10) rfl rfl g2 x.cs rfl rfl 41 _ H2.out (by kernel_rfl) rfl (Rep.all x) ?_))
  exact bodyPost_ret (v := .tuple #[.agg x.cs, .int .i64 0]) (results_ct Try.results11 _ _ g2 41 _ (0, 0) _ rfl (setRow_heap _ _ _ _ _ _ H2.out) Try.underlying41 rfl (by kernel_rfl)) rfl ⟨rfl, row_below HB.out ge2.out _⟩


end Go.Proofs.Ytpcllhhbaockfaa.Print
