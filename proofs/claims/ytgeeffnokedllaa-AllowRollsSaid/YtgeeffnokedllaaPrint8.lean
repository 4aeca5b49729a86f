-- written by this session's program wip/hybrid.py over the kit's printer, and by hand. Not trusted: Lean checks it.
import Derived.Test.YtgeeffnokedllaaPrint0
import Derived.Test.YtgeeffnokedllaaPrint1
import Derived.Test.YtgeeffnokedllaaPrint6
import Derived.Test.YtgeeffnokedllaaPrint7
namespace Go.Proofs.Ytgeeffnokedllaa.Print
open Go.RowKit Go.Proofs.YtgeeffnokedllaaW.PrintWords Go.Proofs.YtgeeffnokedllaaW.PrintLast Go.Proofs.YtgeeffnokedllaaW.PrintMore
attribute [local go_sem] max2_int min2_int max_two min_two max_three min_three max_four min_four   -- for this text's walks alone
set_option linter.unusedVariables false
set_option linter.unusedSimpArgs false

/-! ### lombardlaw16_alive: function 9 -/
def lombardlaw16_alive.f : Option Bool := some true
theorem C_one50 (x : S50) {g e : Nat} {fr : Nat × Nat} {w : World} (hb : w.heap[g]? = some (.cells #[.int .i64 x.f0, .int .i64 x.f1, .int .i64 x.f2, .int .i64 x.f3, .int .i64 x.f4] e fr)) : Kd.C k50 w (some ⟨g, 0, none⟩) ([x] : List S50).length [x] := by
  refine ⟨rfl, by simp, fun _ => ⟨⟨g, 0, none⟩, rfl, fun j p hj => ?_⟩⟩
  obtain ⟨rfl, rfl⟩ : j = 0 ∧ x = p := by
    cases j with
    | zero => exact ⟨rfl, by simpa using hj⟩
    | succ j => simp at hj
  refine ⟨_, rfl, k50_mk w x, fun i u hi => ?_⟩
  have hadd : (⟨g, 0, none⟩ : Addr).add (0 * k50.sz + i) = ⟨g, i, none⟩ := by
    rw [Nat.zero_mul, Nat.zero_add]; unfold Addr.add; split <;> simp_all
  rw [hadd, cell_of_row w g i _ e fr hb]
  simpa using hi
theorem lombardlaw16_alive.g_ : allow_Roll.g 10 0 0 [⟨1, 2, 4, 7, 0⟩] = (⟨10, 0, 4, 0, 0, 6⟩, ⟨0, 4, 0, 3, 0, 7⟩, ⟨0, 0, 0, 0, 0, 0⟩, 0) := by kernel_rfl
theorem lombardlaw16_alive.roll (w : World) : Calls Try.prog 10 #[.agg #[.int .i64 10, .int .i64 0, .int .i64 0], .slice (some ⟨w.heap.size, 0, none⟩) 1 1] (w.alloc (.cells #[.int .i64 1, .int .i64 2, .int .i64 4, .int .i64 7, .int .i64 0] 50)) fun e w' => e = .returned (.tuple #[.agg (row18 ⟨10, 0, 4, 0, 0, 6⟩ ⟨0, 4, 0, 3, 0, 7⟩ ⟨0, 0, 0, 0, 0, 0⟩), .int .i64 0]) ∧ Below (w.alloc (.cells #[.int .i64 1, .int .i64 2, .int .i64 4, .int .i64 7, .int .i64 0] 50)).heap.size (w.alloc (.cells #[.int .i64 1, .int .i64 2, .int .i64 4, .int .i64 7, .int .i64 0] 50)) w' := by
  have h := allow_Roll.go_ (some ⟨w.heap.size, 0, none⟩) 1 [⟨1, 2, 4, 7, 0⟩] 10 0 0 (w.alloc (.cells #[.int .i64 1, .int .i64 2, .int .i64 4, .int .i64 7, .int .i64 0] 50)) (C_one50 ⟨1, 2, 4, 7, 0⟩ (blk_new w _)) (Nat.le_refl _)
  rw [lombardlaw16_alive.g_] at h
  exact h
theorem lombardlaw16_alive.calls  (r : Bool) (w : World) (h : lombardlaw16_alive.f  = some r) :
    Calls Try.prog 9 #[] w fun e w' => e = .returned (.bool r) ∧ Below w.heap.size w w' := by
  obtain rfl := Option.some.inj h
  go_enter Try.func9, Try.ntmps9
  go_wp2_with fail
  with_reducible refine (lombardlaw16_alive.roll w).mono ?_
  rintro e w1 ⟨rfl, hb⟩
  have HB := Aside0.mk (below_step (w := w) (below_alloc (Below.refl _ _) _) hb)
  clear hb
  go_wp2_with ((with_reducible refine gate_store (t := 27) (p := 1) (v := .tmp 8) rfl ?_); refine Shut.out ?_)
  unfold Shut
  refine store_rowTo rfl 27 (.tmp 1) (.tmp 8) rfl rfl w1.heap.size (row18 ⟨10, 0, 4, 0, 0, 6⟩ ⟨0, 4, 0, 3, 0, 7⟩ ⟨0, 0, 0, 0, 0, 0⟩) rfl rfl 27 _ (blk_new w1 _) (by kernel_rfl) rfl (row18_all _ _ _) ?_
  have hg : ((w1.alloc (.cells #[.int .i64 0, .int .i64 0, .int .i64 0, .int .i64 0, .int .i64 0, .int .i64 0, .int .i64 0, .int .i64 0, .int .i64 0, .int .i64 0, .int .i64 0, .int .i64 0, .int .i64 0, .int .i64 0, .int .i64 0, .int .i64 0, .int .i64 0, .int .i64 0] 27)).setRow w1.heap.size (row18 ⟨10, 0, 4, 0, 0, 6⟩ ⟨0, 4, 0, 3, 0, 7⟩ ⟨0, 0, 0, 0, 0, 0⟩)).heap[w1.heap.size]? = some (.cells (row18 ⟨10, 0, 4, 0, 0, 6⟩ ⟨0, 4, 0, 3, 0, 7⟩ ⟨0, 0, 0, 0, 0, 0⟩) 27 (0, 0)) := setRow_heap _ _ _ _ _ _ (blk_new w1 (.cells #[.int .i64 0, .int .i64 0, .int .i64 0, .int .i64 0, .int .i64 0, .int .i64 0, .int .i64 0, .int .i64 0, .int .i64 0, .int .i64 0, .int .i64 0, .int .i64 0, .int .i64 0, .int .i64 0, .int .i64 0, .int .i64 0, .int .i64 0, .int .i64 0] 27))
  have HB2 := Aside0.mk (row_below (g := w1.heap.size) (below_alloc HB.out (.cells #[.int .i64 0, .int .i64 0, .int .i64 0, .int .i64 0, .int .i64 0, .int .i64 0, .int .i64 0, .int .i64 0, .int .i64 0, .int .i64 0, .int .i64 0, .int .i64 0, .int .i64 0, .int .i64 0, .int .i64 0, .int .i64 0, .int .i64 0, .int .i64 0] 27)) (below_size HB.out) (row18 ⟨10, 0, 4, 0, 0, 6⟩ ⟨0, 4, 0, 3, 0, 7⟩ ⟨0, 0, 0, 0, 0, 0⟩))
  generalize (w1.alloc (.cells #[.int .i64 0, .int .i64 0, .int .i64 0, .int .i64 0, .int .i64 0, .int .i64 0, .int .i64 0, .int .i64 0, .int .i64 0, .int .i64 0, .int .i64 0, .int .i64 0, .int .i64 0, .int .i64 0, .int .i64 0, .int .i64 0, .int .i64 0, .int .i64 0] 27)).setRow w1.heap.size (row18 ⟨10, 0, 4, 0, 0, 6⟩ ⟨0, 4, 0, 3, 0, 7⟩ ⟨0, 0, 0, 0, 0, 0⟩) = y at hg HB2 ⊢
  have hk0 : y.cell? ⟨w1.heap.size, 0, none⟩ = some (.int .i64 10) := blk_cell hg 0
  have hk1 : y.cell? ⟨w1.heap.size, 1, none⟩ = some (.int .i64 0) := blk_cell hg 1
  have hk2 : y.cell? ⟨w1.heap.size, 2, none⟩ = some (.int .i64 4) := blk_cell hg 2
  have hk3 : y.cell? ⟨w1.heap.size, 3, none⟩ = some (.int .i64 0) := blk_cell hg 3
  have hk4 : y.cell? ⟨w1.heap.size, 4, none⟩ = some (.int .i64 0) := blk_cell hg 4
  have hk5 : y.cell? ⟨w1.heap.size, 5, none⟩ = some (.int .i64 6) := blk_cell hg 5
  have hk6 : y.cell? ⟨w1.heap.size, 6, none⟩ = some (.int .i64 0) := blk_cell hg 6
  have hk7 : y.cell? ⟨w1.heap.size, 7, none⟩ = some (.int .i64 4) := blk_cell hg 7
  have hk8 : y.cell? ⟨w1.heap.size, 8, none⟩ = some (.int .i64 0) := blk_cell hg 8
  have hk9 : y.cell? ⟨w1.heap.size, 9, none⟩ = some (.int .i64 3) := blk_cell hg 9
  have hk10 : y.cell? ⟨w1.heap.size, 10, none⟩ = some (.int .i64 0) := blk_cell hg 10
  have hk11 : y.cell? ⟨w1.heap.size, 11, none⟩ = some (.int .i64 7) := blk_cell hg 11
  clear hg
  go_wp2_with fail
  with_reducible refine (allow_Ties.calls 0 4 0 3 0 7 true _ (by kernel_rfl)).mono ?_
  rintro e w2 ⟨rfl, hb⟩
  go_wp2_with fail
  go_ret
  exact ⟨rfl, below_step HB2.out hb⟩


end Go.Proofs.Ytgeeffnokedllaa.Print
