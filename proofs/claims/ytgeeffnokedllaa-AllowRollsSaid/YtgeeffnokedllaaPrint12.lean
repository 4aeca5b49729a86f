-- written by this session's program wip/hybrid.py over the kit's printer, and by hand. Not trusted: Lean checks it.
import Derived.Test.YtgeeffnokedllaaPrint0
import Derived.Test.YtgeeffnokedllaaPrint1
import Derived.Test.YtgeeffnokedllaaPrint6
namespace Go.Proofs.Ytgeeffnokedllaa.Print
open Go.RowKit Go.Proofs.YtgeeffnokedllaaW.PrintWords Go.Proofs.YtgeeffnokedllaaW.PrintLast Go.Proofs.YtgeeffnokedllaaW.PrintMore
attribute [local go_sem] max2_int min2_int max_two min_two max_three min_three max_four min_four   -- for this text's walks alone
set_option linter.unusedVariables false
set_option linter.unusedSimpArgs false

/-! ### lombardlaw16_rows: function 13 -/
theorem lombardlaw16_rows.ix0 (a b c : Row6) (w : World) : (Instr.index 27 (.agg (row18 a b c)) (.int .i64 0)).run Try.prog w = .ok (.agg #[.int .i64 a.o, .int .i64 a.i, .int .i64 a.u, .int .i64 a.n, .int .i64 a.w, .int .i64 a.c]) w := by kernel_rfl
theorem lombardlaw16_rows.ix1 (a b c : Row6) (w : World) : (Instr.index 27 (.agg (row18 a b c)) (.int .i64 1)).run Try.prog w = .ok (.agg #[.int .i64 b.o, .int .i64 b.i, .int .i64 b.u, .int .i64 b.n, .int .i64 b.w, .int .i64 b.c]) w := by kernel_rfl
theorem lombardlaw16_rows.ix2 (a b c : Row6) (w : World) : (Instr.index 27 (.agg (row18 a b c)) (.int .i64 2)).run Try.prog w = .ok (.agg #[.int .i64 c.o, .int .i64 c.i, .int .i64 c.u, .int .i64 c.n, .int .i64 c.w, .int .i64 c.c]) w := by kernel_rfl
theorem all6 (a b c d e f : Int) : (#[Value.int .i64 a, .int .i64 b, .int .i64 c, .int .i64 d, .int .i64 e, .int .i64 f] : Array Value).all (·.oneCell') = true := by kernel_rfl
theorem newrow6 (y : World) (Z cells : Array Value) (t : TypeId) : Below y.heap.size y ((y.alloc (.cells Z t)).setRow y.heap.size cells) ∧ ((y.alloc (.cells Z t)).setRow y.heap.size cells).heap[y.heap.size]? = some (.cells cells t (0, 0)) :=
  ⟨row_below (below_alloc (Below.refl _ _) _) (Nat.le_refl _) _, setRow_heap _ _ _ _ _ _ (blk_new y _)⟩
theorem blk_new2 (w : World) (o1 o2 o3 : Obj) : (((w.alloc o1).alloc o2).alloc o3).heap[w.heap.size + 1 + 1]? = some o3 := by
  have e : ((w.alloc o1).alloc o2).heap.size = w.heap.size + 1 + 1 := by simp
  rw [← e]
  exact blk_new _ _
theorem lombardlaw16_rows.start (w : World) (a b c : Row6) : Below w.heap.size w (((w.alloc (.cells (row18 a b c) 27)).alloc (.cells #[.int .i64 0, .int .i64 0, .int .i64 0, .int .i64 0, .int .i64 0, .int .i64 0, .int .i64 0, .int .i64 0, .int .i64 0, .int .i64 0, .int .i64 0, .int .i64 0, .int .i64 0, .int .i64 0, .int .i64 0, .int .i64 0, .int .i64 0, .int .i64 0] 34)).alloc (.cells #[.int .i64 0, .int .i64 0, .int .i64 0, .int .i64 0, .int .i64 0, .int .i64 0, .int .i64 0, .int .i64 0, .int .i64 0, .int .i64 0, .int .i64 0, .int .i64 0, .int .i64 0, .int .i64 0, .int .i64 0, .int .i64 0, .int .i64 0, .int .i64 0] 34)) ∧ (((w.alloc (.cells (row18 a b c) 27)).alloc (.cells #[.int .i64 0, .int .i64 0, .int .i64 0, .int .i64 0, .int .i64 0, .int .i64 0, .int .i64 0, .int .i64 0, .int .i64 0, .int .i64 0, .int .i64 0, .int .i64 0, .int .i64 0, .int .i64 0, .int .i64 0, .int .i64 0, .int .i64 0, .int .i64 0] 34)).alloc (.cells #[.int .i64 0, .int .i64 0, .int .i64 0, .int .i64 0, .int .i64 0, .int .i64 0, .int .i64 0, .int .i64 0, .int .i64 0, .int .i64 0, .int .i64 0, .int .i64 0, .int .i64 0, .int .i64 0, .int .i64 0, .int .i64 0, .int .i64 0, .int .i64 0] 34)).heap[w.heap.size]? = some (.cells (row18 a b c) 27 (0, 0)) ∧ (((w.alloc (.cells (row18 a b c) 27)).alloc (.cells #[.int .i64 0, .int .i64 0, .int .i64 0, .int .i64 0, .int .i64 0, .int .i64 0, .int .i64 0, .int .i64 0, .int .i64 0, .int .i64 0, .int .i64 0, .int .i64 0, .int .i64 0, .int .i64 0, .int .i64 0, .int .i64 0, .int .i64 0, .int .i64 0] 34)).alloc (.cells #[.int .i64 0, .int .i64 0, .int .i64 0, .int .i64 0, .int .i64 0, .int .i64 0, .int .i64 0, .int .i64 0, .int .i64 0, .int .i64 0, .int .i64 0, .int .i64 0, .int .i64 0, .int .i64 0, .int .i64 0, .int .i64 0, .int .i64 0, .int .i64 0] 34)).heap[w.heap.size + 1]? = some (.cells (row18 Row6.z Row6.z Row6.z) 34 (0, 0)) ∧ (((w.alloc (.cells (row18 a b c) 27)).alloc (.cells #[.int .i64 0, .int .i64 0, .int .i64 0, .int .i64 0, .int .i64 0, .int .i64 0, .int .i64 0, .int .i64 0, .int .i64 0, .int .i64 0, .int .i64 0, .int .i64 0, .int .i64 0, .int .i64 0, .int .i64 0, .int .i64 0, .int .i64 0, .int .i64 0] 34)).alloc (.cells #[.int .i64 0, .int .i64 0, .int .i64 0, .int .i64 0, .int .i64 0, .int .i64 0, .int .i64 0, .int .i64 0, .int .i64 0, .int .i64 0, .int .i64 0, .int .i64 0, .int .i64 0, .int .i64 0, .int .i64 0, .int .i64 0, .int .i64 0, .int .i64 0] 34)).heap[w.heap.size + 1 + 1]? = some (.cells (row18 Row6.z Row6.z Row6.z) 34 (0, 0)) :=
  ⟨below_alloc (below_alloc (below_alloc (Below.refl _ _) _) _) _, blk_alloc (blk_alloc (blk_new w _) _) _, blk_alloc (blk_new1 w _ _) _, blk_new2 w _ _ _⟩
set_option maxHeartbeats 8000000 in
set_option maxRecDepth 100000 in
theorem lombardlaw16_rows.go_ (a b c : Row6) (w : World) : Calls Try.prog 13 #[.agg (row18 a b c)] w fun e w' => e = .returned (.agg (row18 a b c)) ∧ Below w.heap.size w w' := by
  obtain ⟨h1, h2, h3, h4⟩ := lombardlaw16_rows.start w a b c
  have HB := Aside0.mk h1
  have BK1 := Aside0.mk h2
  have BK2 := Aside0.mk h3
  have BK3 := Aside0.mk h4
  clear h1 h2 h3 h4
  have hix0 := fun W => lombardlaw16_rows.ix0 a b c W
  have hix1 := fun W => lombardlaw16_rows.ix1 a b c W
  have hix2 := fun W => lombardlaw16_rows.ix2 a b c W
  go_enter Try.func13, Try.ntmps13
  go_wp2_with ((with_reducible refine gate_dst (N := 6) rfl ?_); refine Shut.out ?_)
  unfold Shut
  generalize ((w.alloc (.cells (row18 a b c) 27)).alloc (.cells #[.int .i64 0, .int .i64 0, .int .i64 0, .int .i64 0, .int .i64 0, .int .i64 0, .int .i64 0, .int .i64 0, .int .i64 0, .int .i64 0, .int .i64 0, .int .i64 0, .int .i64 0, .int .i64 0, .int .i64 0, .int .i64 0, .int .i64 0, .int .i64 0] 34)).alloc (.cells #[.int .i64 0, .int .i64 0, .int .i64 0, .int .i64 0, .int .i64 0, .int .i64 0, .int .i64 0, .int .i64 0, .int .i64 0, .int .i64 0, .int .i64 0, .int .i64 0, .int .i64 0, .int .i64 0, .int .i64 0, .int .i64 0, .int .i64 0, .int .i64 0] 34) = y0 at HB BK1 BK2 BK3 ⊢
  obtain ⟨g2, hg2⟩ : ∃ g, g = w.heap.size + 1 := ⟨_, rfl⟩
  obtain ⟨g3, hg3⟩ : ∃ g, g = w.heap.size + 1 + 1 := ⟨_, rfl⟩
  rw [← hg3] at BK3 ⊢
  rw [← hg2] at BK2 ⊢
  have hlt2 : w.heap.size < g2 := by omega
  have hlt3 : g2 < g3 := by omega
  clear hg2 hg3
  refine wpList_load_row rfl 27 (.tmp 1) rfl w.heap.size rfl 27 _ (0, 0) _ BK1.out Try.underlying27 rfl (by kernel_rfl) ?_
  go_wp2_with fail
  refine wp_loop_rounds 4 ?_
  rw [rounds_succ]
  obtain ⟨hnb, hnk⟩ := newrow6 y0 #[.int .i64 0, .int .i64 0, .int .i64 0, .int .i64 0, .int .i64 0, .int .i64 0] #[.int .i64 a.o, .int .i64 a.i, .int .i64 a.u, .int .i64 a.n, .int .i64 a.w, .int .i64 a.c] 26
  go_wp2_with ((with_reducible refine gate_store (t := 26) (p := 5) (v := .tmp 10) rfl ?_); refine Shut.out ?_)
  unfold Shut
  refine store_rowTo rfl 26 (.tmp 5) (.tmp 10) rfl rfl y0.heap.size #[.int .i64 a.o, .int .i64 a.i, .int .i64 a.u, .int .i64 a.n, .int .i64 a.w, .int .i64 a.c] rfl rfl 26 _ (blk_new y0 _) (by kernel_rfl) rfl (all6 _ _ _ _ _ _) ?_
  have n_HB := Aside0.mk (below_step HB.out hnb)
  have n_BK1 := Aside0.mk (blk_below BK1.out hnb)
  have n_BK2 := Aside0.mk (blk_below BK2.out hnb)
  have n_BK3 := Aside0.mk (blk_below BK3.out hnb)
  have n_BK5 := Aside0.mk hnk
  have hg5 := blk_lt BK3.out
  clear HB BK1 BK2 BK3 hnb hnk
  generalize (y0.alloc (.cells #[.int .i64 0, .int .i64 0, .int .i64 0, .int .i64 0, .int .i64 0, .int .i64 0] 26)).setRow y0.heap.size #[.int .i64 a.o, .int .i64 a.i, .int .i64 a.u, .int .i64 a.n, .int .i64 a.w, .int .i64 a.c] = z0 at n_HB n_BK1 n_BK2 n_BK3 n_BK5 ⊢
  generalize y0.heap.size = g5 at n_BK5 hg5 ⊢
  have HB := n_HB
  clear n_HB
  have BK1 := n_BK1
  clear n_BK1
  have BK2 := n_BK2
  clear n_BK2
  have BK3 := n_BK3
  clear n_BK3
  have BK5 := n_BK5
  clear n_BK5
  have hk0 : z0.cell? ⟨g5, 0, none⟩ = some (.int .i64 a.o) := blk_cell BK5.out 0
  have hc0 : z0.cell? ⟨g3, 0, none⟩ = some (.int .i64 0) := blk_cell BK3.out 0
  have hf0 := blk_frozen BK3.out 0
  have hk1 : z0.cell? ⟨g5, 1, none⟩ = some (.int .i64 a.i) := blk_cell BK5.out 1
  have hc1 : z0.cell? ⟨g3, 1, none⟩ = some (.int .i64 0) := blk_cell BK3.out 1
  have hf1 := blk_frozen BK3.out 1
  have hk2 : z0.cell? ⟨g5, 2, none⟩ = some (.int .i64 a.u) := blk_cell BK5.out 2
  have hc2 : z0.cell? ⟨g3, 2, none⟩ = some (.int .i64 0) := blk_cell BK3.out 2
  have hf2 := blk_frozen BK3.out 2
  have hk3 : z0.cell? ⟨g5, 3, none⟩ = some (.int .i64 a.n) := blk_cell BK5.out 3
  have hc3 : z0.cell? ⟨g3, 3, none⟩ = some (.int .i64 0) := blk_cell BK3.out 3
  have hf3 := blk_frozen BK3.out 3
  have hk4 : z0.cell? ⟨g5, 4, none⟩ = some (.int .i64 a.w) := blk_cell BK5.out 4
  have hc4 : z0.cell? ⟨g3, 4, none⟩ = some (.int .i64 0) := blk_cell BK3.out 4
  have hf4 := blk_frozen BK3.out 4
  have hk5 : z0.cell? ⟨g5, 5, none⟩ = some (.int .i64 a.c) := blk_cell BK5.out 5
  have hc5 : z0.cell? ⟨g3, 5, none⟩ = some (.int .i64 0) := blk_cell BK3.out 5
  have hf5 := blk_frozen BK3.out 5
  go_wp2_with fail
  clear hk0 hc0 hf0 hk1 hc1 hf1 hk2 hc2 hf2 hk3 hc3 hf3 hk4 hc4 hf4 hk5 hc5 hf5
  have HB := Aside0.mk (HB.out.setCell (p := ⟨g3, 0, none⟩) (show w.heap.size ≤ g3 by omega) (.int .i64 a.o))
  have BK1 := Aside0.mk ((Below.heap_setCell (z0) ⟨g3, 0, none⟩ (.int .i64 a.o) w.heap.size (show w.heap.size ≠ g3 by omega)).trans BK1.out)
  have BK2 := Aside0.mk ((Below.heap_setCell (z0) ⟨g3, 0, none⟩ (.int .i64 a.o) g2 (show g2 ≠ g3 by omega)).trans BK2.out)
  have BK3 := Aside0.mk (blk_put BK3.out 0 (.int .i64 a.o) (show (row18 _ _ _).setIfInBounds 0 _ = row18 ⟨a.o, 0, 0, 0, 0, 0⟩ Row6.z Row6.z from rfl))
  have HB := Aside0.mk (HB.out.setCell (p := ⟨g3, 1, none⟩) (show w.heap.size ≤ g3 by omega) (.int .i64 a.i))
  have BK1 := Aside0.mk ((Below.heap_setCell ((z0).setCell ⟨g3, 0, none⟩ (.int .i64 a.o)) ⟨g3, 1, none⟩ (.int .i64 a.i) w.heap.size (show w.heap.size ≠ g3 by omega)).trans BK1.out)
  have BK2 := Aside0.mk ((Below.heap_setCell ((z0).setCell ⟨g3, 0, none⟩ (.int .i64 a.o)) ⟨g3, 1, none⟩ (.int .i64 a.i) g2 (show g2 ≠ g3 by omega)).trans BK2.out)
  have BK3 := Aside0.mk (blk_put BK3.out 1 (.int .i64 a.i) (show (row18 _ _ _).setIfInBounds 1 _ = row18 ⟨a.o, a.i, 0, 0, 0, 0⟩ Row6.z Row6.z from rfl))
  have HB := Aside0.mk (HB.out.setCell (p := ⟨g3, 2, none⟩) (show w.heap.size ≤ g3 by omega) (.int .i64 a.u))
  have BK1 := Aside0.mk ((Below.heap_setCell (((z0).setCell ⟨g3, 0, none⟩ (.int .i64 a.o)).setCell ⟨g3, 1, none⟩ (.int .i64 a.i)) ⟨g3, 2, none⟩ (.int .i64 a.u) w.heap.size (show w.heap.size ≠ g3 by omega)).trans BK1.out)
  have BK2 := Aside0.mk ((Below.heap_setCell (((z0).setCell ⟨g3, 0, none⟩ (.int .i64 a.o)).setCell ⟨g3, 1, none⟩ (.int .i64 a.i)) ⟨g3, 2, none⟩ (.int .i64 a.u) g2 (show g2 ≠ g3 by omega)).trans BK2.out)
  have BK3 := Aside0.mk (blk_put BK3.out 2 (.int .i64 a.u) (show (row18 _ _ _).setIfInBounds 2 _ = row18 ⟨a.o, a.i, a.u, 0, 0, 0⟩ Row6.z Row6.z from rfl))
  have HB := Aside0.mk (HB.out.setCell (p := ⟨g3, 3, none⟩) (show w.heap.size ≤ g3 by omega) (.int .i64 a.n))
  have BK1 := Aside0.mk ((Below.heap_setCell ((((z0).setCell ⟨g3, 0, none⟩ (.int .i64 a.o)).setCell ⟨g3, 1, none⟩ (.int .i64 a.i)).setCell ⟨g3, 2, none⟩ (.int .i64 a.u)) ⟨g3, 3, none⟩ (.int .i64 a.n) w.heap.size (show w.heap.size ≠ g3 by omega)).trans BK1.out)
  have BK2 := Aside0.mk ((Below.heap_setCell ((((z0).setCell ⟨g3, 0, none⟩ (.int .i64 a.o)).setCell ⟨g3, 1, none⟩ (.int .i64 a.i)).setCell ⟨g3, 2, none⟩ (.int .i64 a.u)) ⟨g3, 3, none⟩ (.int .i64 a.n) g2 (show g2 ≠ g3 by omega)).trans BK2.out)
  have BK3 := Aside0.mk (blk_put BK3.out 3 (.int .i64 a.n) (show (row18 _ _ _).setIfInBounds 3 _ = row18 ⟨a.o, a.i, a.u, a.n, 0, 0⟩ Row6.z Row6.z from rfl))
  have HB := Aside0.mk (HB.out.setCell (p := ⟨g3, 4, none⟩) (show w.heap.size ≤ g3 by omega) (.int .i64 a.w))
  have BK1 := Aside0.mk ((Below.heap_setCell (((((z0).setCell ⟨g3, 0, none⟩ (.int .i64 a.o)).setCell ⟨g3, 1, none⟩ (.int .i64 a.i)).setCell ⟨g3, 2, none⟩ (.int .i64 a.u)).setCell ⟨g3, 3, none⟩ (.int .i64 a.n)) ⟨g3, 4, none⟩ (.int .i64 a.w) w.heap.size (show w.heap.size ≠ g3 by omega)).trans BK1.out)
  have BK2 := Aside0.mk ((Below.heap_setCell (((((z0).setCell ⟨g3, 0, none⟩ (.int .i64 a.o)).setCell ⟨g3, 1, none⟩ (.int .i64 a.i)).setCell ⟨g3, 2, none⟩ (.int .i64 a.u)).setCell ⟨g3, 3, none⟩ (.int .i64 a.n)) ⟨g3, 4, none⟩ (.int .i64 a.w) g2 (show g2 ≠ g3 by omega)).trans BK2.out)
  have BK3 := Aside0.mk (blk_put BK3.out 4 (.int .i64 a.w) (show (row18 _ _ _).setIfInBounds 4 _ = row18 ⟨a.o, a.i, a.u, a.n, a.w, 0⟩ Row6.z Row6.z from rfl))
  have HB := Aside0.mk (HB.out.setCell (p := ⟨g3, 5, none⟩) (show w.heap.size ≤ g3 by omega) (.int .i64 a.c))
  have BK1 := Aside0.mk ((Below.heap_setCell ((((((z0).setCell ⟨g3, 0, none⟩ (.int .i64 a.o)).setCell ⟨g3, 1, none⟩ (.int .i64 a.i)).setCell ⟨g3, 2, none⟩ (.int .i64 a.u)).setCell ⟨g3, 3, none⟩ (.int .i64 a.n)).setCell ⟨g3, 4, none⟩ (.int .i64 a.w)) ⟨g3, 5, none⟩ (.int .i64 a.c) w.heap.size (show w.heap.size ≠ g3 by omega)).trans BK1.out)
  have BK2 := Aside0.mk ((Below.heap_setCell ((((((z0).setCell ⟨g3, 0, none⟩ (.int .i64 a.o)).setCell ⟨g3, 1, none⟩ (.int .i64 a.i)).setCell ⟨g3, 2, none⟩ (.int .i64 a.u)).setCell ⟨g3, 3, none⟩ (.int .i64 a.n)).setCell ⟨g3, 4, none⟩ (.int .i64 a.w)) ⟨g3, 5, none⟩ (.int .i64 a.c) g2 (show g2 ≠ g3 by omega)).trans BK2.out)
  have BK3 := Aside0.mk (blk_put BK3.out 5 (.int .i64 a.c) (show (row18 _ _ _).setIfInBounds 5 _ = row18 ⟨a.o, a.i, a.u, a.n, a.w, a.c⟩ Row6.z Row6.z from rfl))
  replace BK3 : Aside0 ((((((((z0).setCell ⟨g3, 0, none⟩ (.int .i64 a.o)).setCell ⟨g3, 1, none⟩ (.int .i64 a.i)).setCell ⟨g3, 2, none⟩ (.int .i64 a.u)).setCell ⟨g3, 3, none⟩ (.int .i64 a.n)).setCell ⟨g3, 4, none⟩ (.int .i64 a.w)).setCell ⟨g3, 5, none⟩ (.int .i64 a.c)).heap[g3]? = some (.cells (row18 a Row6.z Row6.z) 34 (0, 0))) := ⟨BK3.out⟩
  generalize ((((((z0).setCell ⟨g3, 0, none⟩ (.int .i64 a.o)).setCell ⟨g3, 1, none⟩ (.int .i64 a.i)).setCell ⟨g3, 2, none⟩ (.int .i64 a.u)).setCell ⟨g3, 3, none⟩ (.int .i64 a.n)).setCell ⟨g3, 4, none⟩ (.int .i64 a.w)).setCell ⟨g3, 5, none⟩ (.int .i64 a.c) = y1 at HB BK1 BK2 BK3 ⊢
  rw [rounds_succ]
  obtain ⟨hnb, hnk⟩ := newrow6 y1 #[.int .i64 0, .int .i64 0, .int .i64 0, .int .i64 0, .int .i64 0, .int .i64 0] #[.int .i64 b.o, .int .i64 b.i, .int .i64 b.u, .int .i64 b.n, .int .i64 b.w, .int .i64 b.c] 26
  go_wp2_with ((with_reducible refine gate_store (t := 26) (p := 5) (v := .tmp 10) rfl ?_); refine Shut.out ?_)
  unfold Shut
  refine store_rowTo rfl 26 (.tmp 5) (.tmp 10) rfl rfl y1.heap.size #[.int .i64 b.o, .int .i64 b.i, .int .i64 b.u, .int .i64 b.n, .int .i64 b.w, .int .i64 b.c] rfl rfl 26 _ (blk_new y1 _) (by kernel_rfl) rfl (all6 _ _ _ _ _ _) ?_
  have n_HB := Aside0.mk (below_step HB.out hnb)
  have n_BK1 := Aside0.mk (blk_below BK1.out hnb)
  have n_BK2 := Aside0.mk (blk_below BK2.out hnb)
  have n_BK3 := Aside0.mk (blk_below BK3.out hnb)
  have n_BK5 := Aside0.mk hnk
  have hg5 := blk_lt BK3.out
  clear HB BK1 BK2 BK3 hnb hnk
  generalize (y1.alloc (.cells #[.int .i64 0, .int .i64 0, .int .i64 0, .int .i64 0, .int .i64 0, .int .i64 0] 26)).setRow y1.heap.size #[.int .i64 b.o, .int .i64 b.i, .int .i64 b.u, .int .i64 b.n, .int .i64 b.w, .int .i64 b.c] = z1 at n_HB n_BK1 n_BK2 n_BK3 n_BK5 ⊢
  generalize y1.heap.size = g5 at n_BK5 hg5 ⊢
  have HB := n_HB
  clear n_HB
  have BK1 := n_BK1
  clear n_BK1
  have BK2 := n_BK2
  clear n_BK2
  have BK3 := n_BK3
  clear n_BK3
  have BK5 := n_BK5
  clear n_BK5
  have hk0 : z1.cell? ⟨g5, 0, none⟩ = some (.int .i64 b.o) := blk_cell BK5.out 0
  have hc0 : z1.cell? ⟨g3, 6, none⟩ = some (.int .i64 0) := blk_cell BK3.out 6
  have hf0 := blk_frozen BK3.out 6
  have hk1 : z1.cell? ⟨g5, 1, none⟩ = some (.int .i64 b.i) := blk_cell BK5.out 1
  have hc1 : z1.cell? ⟨g3, 7, none⟩ = some (.int .i64 0) := blk_cell BK3.out 7
  have hf1 := blk_frozen BK3.out 7
  have hk2 : z1.cell? ⟨g5, 2, none⟩ = some (.int .i64 b.u) := blk_cell BK5.out 2
  have hc2 : z1.cell? ⟨g3, 8, none⟩ = some (.int .i64 0) := blk_cell BK3.out 8
  have hf2 := blk_frozen BK3.out 8
  have hk3 : z1.cell? ⟨g5, 3, none⟩ = some (.int .i64 b.n) := blk_cell BK5.out 3
  have hc3 : z1.cell? ⟨g3, 9, none⟩ = some (.int .i64 0) := blk_cell BK3.out 9
  have hf3 := blk_frozen BK3.out 9
  have hk4 : z1.cell? ⟨g5, 4, none⟩ = some (.int .i64 b.w) := blk_cell BK5.out 4
  have hc4 : z1.cell? ⟨g3, 10, none⟩ = some (.int .i64 0) := blk_cell BK3.out 10
  have hf4 := blk_frozen BK3.out 10
  have hk5 : z1.cell? ⟨g5, 5, none⟩ = some (.int .i64 b.c) := blk_cell BK5.out 5
  have hc5 : z1.cell? ⟨g3, 11, none⟩ = some (.int .i64 0) := blk_cell BK3.out 11
  have hf5 := blk_frozen BK3.out 11
  go_wp2_with fail
  clear hk0 hc0 hf0 hk1 hc1 hf1 hk2 hc2 hf2 hk3 hc3 hf3 hk4 hc4 hf4 hk5 hc5 hf5
  have HB := Aside0.mk (HB.out.setCell (p := ⟨g3, 6, none⟩) (show w.heap.size ≤ g3 by omega) (.int .i64 b.o))
  have BK1 := Aside0.mk ((Below.heap_setCell (z1) ⟨g3, 6, none⟩ (.int .i64 b.o) w.heap.size (show w.heap.size ≠ g3 by omega)).trans BK1.out)
  have BK2 := Aside0.mk ((Below.heap_setCell (z1) ⟨g3, 6, none⟩ (.int .i64 b.o) g2 (show g2 ≠ g3 by omega)).trans BK2.out)
  have BK3 := Aside0.mk (blk_put BK3.out 6 (.int .i64 b.o) (show (row18 _ _ _).setIfInBounds 6 _ = row18 a ⟨b.o, 0, 0, 0, 0, 0⟩ Row6.z from rfl))
  have HB := Aside0.mk (HB.out.setCell (p := ⟨g3, 7, none⟩) (show w.heap.size ≤ g3 by omega) (.int .i64 b.i))
  have BK1 := Aside0.mk ((Below.heap_setCell ((z1).setCell ⟨g3, 6, none⟩ (.int .i64 b.o)) ⟨g3, 7, none⟩ (.int .i64 b.i) w.heap.size (show w.heap.size ≠ g3 by omega)).trans BK1.out)
  have BK2 := Aside0.mk ((Below.heap_setCell ((z1).setCell ⟨g3, 6, none⟩ (.int .i64 b.o)) ⟨g3, 7, none⟩ (.int .i64 b.i) g2 (show g2 ≠ g3 by omega)).trans BK2.out)
  have BK3 := Aside0.mk (blk_put BK3.out 7 (.int .i64 b.i) (show (row18 _ _ _).setIfInBounds 7 _ = row18 a ⟨b.o, b.i, 0, 0, 0, 0⟩ Row6.z from rfl))
  have HB := Aside0.mk (HB.out.setCell (p := ⟨g3, 8, none⟩) (show w.heap.size ≤ g3 by omega) (.int .i64 b.u))
  have BK1 := Aside0.mk ((Below.heap_setCell (((z1).setCell ⟨g3, 6, none⟩ (.int .i64 b.o)).setCell ⟨g3, 7, none⟩ (.int .i64 b.i)) ⟨g3, 8, none⟩ (.int .i64 b.u) w.heap.size (show w.heap.size ≠ g3 by omega)).trans BK1.out)
  have BK2 := Aside0.mk ((Below.heap_setCell (((z1).setCell ⟨g3, 6, none⟩ (.int .i64 b.o)).setCell ⟨g3, 7, none⟩ (.int .i64 b.i)) ⟨g3, 8, none⟩ (.int .i64 b.u) g2 (show g2 ≠ g3 by omega)).trans BK2.out)
  have BK3 := Aside0.mk (blk_put BK3.out 8 (.int .i64 b.u) (show (row18 _ _ _).setIfInBounds 8 _ = row18 a ⟨b.o, b.i, b.u, 0, 0, 0⟩ Row6.z from rfl))
  have HB := Aside0.mk (HB.out.setCell (p := ⟨g3, 9, none⟩) (show w.heap.size ≤ g3 by omega) (.int .i64 b.n))
  have BK1 := Aside0.mk ((Below.heap_setCell ((((z1).setCell ⟨g3, 6, none⟩ (.int .i64 b.o)).setCell ⟨g3, 7, none⟩ (.int .i64 b.i)).setCell ⟨g3, 8, none⟩ (.int .i64 b.u)) ⟨g3, 9, none⟩ (.int .i64 b.n) w.heap.size (show w.heap.size ≠ g3 by omega)).trans BK1.out)
  have BK2 := Aside0.mk ((Below.heap_setCell ((((z1).setCell ⟨g3, 6, none⟩ (.int .i64 b.o)).setCell ⟨g3, 7, none⟩ (.int .i64 b.i)).setCell ⟨g3, 8, none⟩ (.int .i64 b.u)) ⟨g3, 9, none⟩ (.int .i64 b.n) g2 (show g2 ≠ g3 by omega)).trans BK2.out)
  have BK3 := Aside0.mk (blk_put BK3.out 9 (.int .i64 b.n) (show (row18 _ _ _).setIfInBounds 9 _ = row18 a ⟨b.o, b.i, b.u, b.n, 0, 0⟩ Row6.z from rfl))
  have HB := Aside0.mk (HB.out.setCell (p := ⟨g3, 10, none⟩) (show w.heap.size ≤ g3 by omega) (.int .i64 b.w))
  have BK1 := Aside0.mk ((Below.heap_setCell (((((z1).setCell ⟨g3, 6, none⟩ (.int .i64 b.o)).setCell ⟨g3, 7, none⟩ (.int .i64 b.i)).setCell ⟨g3, 8, none⟩ (.int .i64 b.u)).setCell ⟨g3, 9, none⟩ (.int .i64 b.n)) ⟨g3, 10, none⟩ (.int .i64 b.w) w.heap.size (show w.heap.size ≠ g3 by omega)).trans BK1.out)
  have BK2 := Aside0.mk ((Below.heap_setCell (((((z1).setCell ⟨g3, 6, none⟩ (.int .i64 b.o)).setCell ⟨g3, 7, none⟩ (.int .i64 b.i)).setCell ⟨g3, 8, none⟩ (.int .i64 b.u)).setCell ⟨g3, 9, none⟩ (.int .i64 b.n)) ⟨g3, 10, none⟩ (.int .i64 b.w) g2 (show g2 ≠ g3 by omega)).trans BK2.out)
  have BK3 := Aside0.mk (blk_put BK3.out 10 (.int .i64 b.w) (show (row18 _ _ _).setIfInBounds 10 _ = row18 a ⟨b.o, b.i, b.u, b.n, b.w, 0⟩ Row6.z from rfl))
  have HB := Aside0.mk (HB.out.setCell (p := ⟨g3, 11, none⟩) (show w.heap.size ≤ g3 by omega) (.int .i64 b.c))
  have BK1 := Aside0.mk ((Below.heap_setCell ((((((z1).setCell ⟨g3, 6, none⟩ (.int .i64 b.o)).setCell ⟨g3, 7, none⟩ (.int .i64 b.i)).setCell ⟨g3, 8, none⟩ (.int .i64 b.u)).setCell ⟨g3, 9, none⟩ (.int .i64 b.n)).setCell ⟨g3, 10, none⟩ (.int .i64 b.w)) ⟨g3, 11, none⟩ (.int .i64 b.c) w.heap.size (show w.heap.size ≠ g3 by omega)).trans BK1.out)
  have BK2 := Aside0.mk ((Below.heap_setCell ((((((z1).setCell ⟨g3, 6, none⟩ (.int .i64 b.o)).setCell ⟨g3, 7, none⟩ (.int .i64 b.i)).setCell ⟨g3, 8, none⟩ (.int .i64 b.u)).setCell ⟨g3, 9, none⟩ (.int .i64 b.n)).setCell ⟨g3, 10, none⟩ (.int .i64 b.w)) ⟨g3, 11, none⟩ (.int .i64 b.c) g2 (show g2 ≠ g3 by omega)).trans BK2.out)
  have BK3 := Aside0.mk (blk_put BK3.out 11 (.int .i64 b.c) (show (row18 _ _ _).setIfInBounds 11 _ = row18 a ⟨b.o, b.i, b.u, b.n, b.w, b.c⟩ Row6.z from rfl))
  replace BK3 : Aside0 ((((((((z1).setCell ⟨g3, 6, none⟩ (.int .i64 b.o)).setCell ⟨g3, 7, none⟩ (.int .i64 b.i)).setCell ⟨g3, 8, none⟩ (.int .i64 b.u)).setCell ⟨g3, 9, none⟩ (.int .i64 b.n)).setCell ⟨g3, 10, none⟩ (.int .i64 b.w)).setCell ⟨g3, 11, none⟩ (.int .i64 b.c)).heap[g3]? = some (.cells (row18 a b Row6.z) 34 (0, 0))) := ⟨BK3.out⟩
  generalize ((((((z1).setCell ⟨g3, 6, none⟩ (.int .i64 b.o)).setCell ⟨g3, 7, none⟩ (.int .i64 b.i)).setCell ⟨g3, 8, none⟩ (.int .i64 b.u)).setCell ⟨g3, 9, none⟩ (.int .i64 b.n)).setCell ⟨g3, 10, none⟩ (.int .i64 b.w)).setCell ⟨g3, 11, none⟩ (.int .i64 b.c) = y2 at HB BK1 BK2 BK3 ⊢
  rw [rounds_succ]
  obtain ⟨hnb, hnk⟩ := newrow6 y2 #[.int .i64 0, .int .i64 0, .int .i64 0, .int .i64 0, .int .i64 0, .int .i64 0] #[.int .i64 c.o, .int .i64 c.i, .int .i64 c.u, .int .i64 c.n, .int .i64 c.w, .int .i64 c.c] 26
  go_wp2_with ((with_reducible refine gate_store (t := 26) (p := 5) (v := .tmp 10) rfl ?_); refine Shut.out ?_)
  unfold Shut
  refine store_rowTo rfl 26 (.tmp 5) (.tmp 10) rfl rfl y2.heap.size #[.int .i64 c.o, .int .i64 c.i, .int .i64 c.u, .int .i64 c.n, .int .i64 c.w, .int .i64 c.c] rfl rfl 26 _ (blk_new y2 _) (by kernel_rfl) rfl (all6 _ _ _ _ _ _) ?_
  have n_HB := Aside0.mk (below_step HB.out hnb)
  have n_BK1 := Aside0.mk (blk_below BK1.out hnb)
  have n_BK2 := Aside0.mk (blk_below BK2.out hnb)
  have n_BK3 := Aside0.mk (blk_below BK3.out hnb)
  have n_BK5 := Aside0.mk hnk
  have hg5 := blk_lt BK3.out
  clear HB BK1 BK2 BK3 hnb hnk
  generalize (y2.alloc (.cells #[.int .i64 0, .int .i64 0, .int .i64 0, .int .i64 0, .int .i64 0, .int .i64 0] 26)).setRow y2.heap.size #[.int .i64 c.o, .int .i64 c.i, .int .i64 c.u, .int .i64 c.n, .int .i64 c.w, .int .i64 c.c] = z2 at n_HB n_BK1 n_BK2 n_BK3 n_BK5 ⊢
  generalize y2.heap.size = g5 at n_BK5 hg5 ⊢
  have HB := n_HB
  clear n_HB
  have BK1 := n_BK1
  clear n_BK1
  have BK2 := n_BK2
  clear n_BK2
  have BK3 := n_BK3
  clear n_BK3
  have BK5 := n_BK5
  clear n_BK5
  have hk0 : z2.cell? ⟨g5, 0, none⟩ = some (.int .i64 c.o) := blk_cell BK5.out 0
  have hc0 : z2.cell? ⟨g3, 12, none⟩ = some (.int .i64 0) := blk_cell BK3.out 12
  have hf0 := blk_frozen BK3.out 12
  have hk1 : z2.cell? ⟨g5, 1, none⟩ = some (.int .i64 c.i) := blk_cell BK5.out 1
  have hc1 : z2.cell? ⟨g3, 13, none⟩ = some (.int .i64 0) := blk_cell BK3.out 13
  have hf1 := blk_frozen BK3.out 13
  have hk2 : z2.cell? ⟨g5, 2, none⟩ = some (.int .i64 c.u) := blk_cell BK5.out 2
  have hc2 : z2.cell? ⟨g3, 14, none⟩ = some (.int .i64 0) := blk_cell BK3.out 14
  have hf2 := blk_frozen BK3.out 14
  have hk3 : z2.cell? ⟨g5, 3, none⟩ = some (.int .i64 c.n) := blk_cell BK5.out 3
  have hc3 : z2.cell? ⟨g3, 15, none⟩ = some (.int .i64 0) := blk_cell BK3.out 15
  have hf3 := blk_frozen BK3.out 15
  have hk4 : z2.cell? ⟨g5, 4, none⟩ = some (.int .i64 c.w) := blk_cell BK5.out 4
  have hc4 : z2.cell? ⟨g3, 16, none⟩ = some (.int .i64 0) := blk_cell BK3.out 16
  have hf4 := blk_frozen BK3.out 16
  have hk5 : z2.cell? ⟨g5, 5, none⟩ = some (.int .i64 c.c) := blk_cell BK5.out 5
  have hc5 : z2.cell? ⟨g3, 17, none⟩ = some (.int .i64 0) := blk_cell BK3.out 17
  have hf5 := blk_frozen BK3.out 17
  go_wp2_with fail
  clear hk0 hc0 hf0 hk1 hc1 hf1 hk2 hc2 hf2 hk3 hc3 hf3 hk4 hc4 hf4 hk5 hc5 hf5
  have HB := Aside0.mk (HB.out.setCell (p := ⟨g3, 12, none⟩) (show w.heap.size ≤ g3 by omega) (.int .i64 c.o))
  have BK1 := Aside0.mk ((Below.heap_setCell (z2) ⟨g3, 12, none⟩ (.int .i64 c.o) w.heap.size (show w.heap.size ≠ g3 by omega)).trans BK1.out)
  have BK2 := Aside0.mk ((Below.heap_setCell (z2) ⟨g3, 12, none⟩ (.int .i64 c.o) g2 (show g2 ≠ g3 by omega)).trans BK2.out)
  have BK3 := Aside0.mk (blk_put BK3.out 12 (.int .i64 c.o) (show (row18 _ _ _).setIfInBounds 12 _ = row18 a b ⟨c.o, 0, 0, 0, 0, 0⟩ from rfl))
  have HB := Aside0.mk (HB.out.setCell (p := ⟨g3, 13, none⟩) (show w.heap.size ≤ g3 by omega) (.int .i64 c.i))
  have BK1 := Aside0.mk ((Below.heap_setCell ((z2).setCell ⟨g3, 12, none⟩ (.int .i64 c.o)) ⟨g3, 13, none⟩ (.int .i64 c.i) w.heap.size (show w.heap.size ≠ g3 by omega)).trans BK1.out)
  have BK2 := Aside0.mk ((Below.heap_setCell ((z2).setCell ⟨g3, 12, none⟩ (.int .i64 c.o)) ⟨g3, 13, none⟩ (.int .i64 c.i) g2 (show g2 ≠ g3 by omega)).trans BK2.out)
  have BK3 := Aside0.mk (blk_put BK3.out 13 (.int .i64 c.i) (show (row18 _ _ _).setIfInBounds 13 _ = row18 a b ⟨c.o, c.i, 0, 0, 0, 0⟩ from rfl))
  have HB := Aside0.mk (HB.out.setCell (p := ⟨g3, 14, none⟩) (show w.heap.size ≤ g3 by omega) (.int .i64 c.u))
  have BK1 := Aside0.mk ((Below.heap_setCell (((z2).setCell ⟨g3, 12, none⟩ (.int .i64 c.o)).setCell ⟨g3, 13, none⟩ (.int .i64 c.i)) ⟨g3, 14, none⟩ (.int .i64 c.u) w.heap.size (show w.heap.size ≠ g3 by omega)).trans BK1.out)
  have BK2 := Aside0.mk ((Below.heap_setCell (((z2).setCell ⟨g3, 12, none⟩ (.int .i64 c.o)).setCell ⟨g3, 13, none⟩ (.int .i64 c.i)) ⟨g3, 14, none⟩ (.int .i64 c.u) g2 (show g2 ≠ g3 by omega)).trans BK2.out)
  have BK3 := Aside0.mk (blk_put BK3.out 14 (.int .i64 c.u) (show (row18 _ _ _).setIfInBounds 14 _ = row18 a b ⟨c.o, c.i, c.u, 0, 0, 0⟩ from rfl))
  have HB := Aside0.mk (HB.out.setCell (p := ⟨g3, 15, none⟩) (show w.heap.size ≤ g3 by omega) (.int .i64 c.n))
  have BK1 := Aside0.mk ((Below.heap_setCell ((((z2).setCell ⟨g3, 12, none⟩ (.int .i64 c.o)).setCell ⟨g3, 13, none⟩ (.int .i64 c.i)).setCell ⟨g3, 14, none⟩ (.int .i64 c.u)) ⟨g3, 15, none⟩ (.int .i64 c.n) w.heap.size (show w.heap.size ≠ g3 by omega)).trans BK1.out)
  have BK2 := Aside0.mk ((Below.heap_setCell ((((z2).setCell ⟨g3, 12, none⟩ (.int .i64 c.o)).setCell ⟨g3, 13, none⟩ (.int .i64 c.i)).setCell ⟨g3, 14, none⟩ (.int .i64 c.u)) ⟨g3, 15, none⟩ (.int .i64 c.n) g2 (show g2 ≠ g3 by omega)).trans BK2.out)
  have BK3 := Aside0.mk (blk_put BK3.out 15 (.int .i64 c.n) (show (row18 _ _ _).setIfInBounds 15 _ = row18 a b ⟨c.o, c.i, c.u, c.n, 0, 0⟩ from rfl))
  have HB := Aside0.mk (HB.out.setCell (p := ⟨g3, 16, none⟩) (show w.heap.size ≤ g3 by omega) (.int .i64 c.w))
  have BK1 := Aside0.mk ((Below.heap_setCell (((((z2).setCell ⟨g3, 12, none⟩ (.int .i64 c.o)).setCell ⟨g3, 13, none⟩ (.int .i64 c.i)).setCell ⟨g3, 14, none⟩ (.int .i64 c.u)).setCell ⟨g3, 15, none⟩ (.int .i64 c.n)) ⟨g3, 16, none⟩ (.int .i64 c.w) w.heap.size (show w.heap.size ≠ g3 by omega)).trans BK1.out)
  have BK2 := Aside0.mk ((Below.heap_setCell (((((z2).setCell ⟨g3, 12, none⟩ (.int .i64 c.o)).setCell ⟨g3, 13, none⟩ (.int .i64 c.i)).setCell ⟨g3, 14, none⟩ (.int .i64 c.u)).setCell ⟨g3, 15, none⟩ (.int .i64 c.n)) ⟨g3, 16, none⟩ (.int .i64 c.w) g2 (show g2 ≠ g3 by omega)).trans BK2.out)
  have BK3 := Aside0.mk (blk_put BK3.out 16 (.int .i64 c.w) (show (row18 _ _ _).setIfInBounds 16 _ = row18 a b ⟨c.o, c.i, c.u, c.n, c.w, 0⟩ from rfl))
  have HB := Aside0.mk (HB.out.setCell (p := ⟨g3, 17, none⟩) (show w.heap.size ≤ g3 by omega) (.int .i64 c.c))
  have BK1 := Aside0.mk ((Below.heap_setCell ((((((z2).setCell ⟨g3, 12, none⟩ (.int .i64 c.o)).setCell ⟨g3, 13, none⟩ (.int .i64 c.i)).setCell ⟨g3, 14, none⟩ (.int .i64 c.u)).setCell ⟨g3, 15, none⟩ (.int .i64 c.n)).setCell ⟨g3, 16, none⟩ (.int .i64 c.w)) ⟨g3, 17, none⟩ (.int .i64 c.c) w.heap.size (show w.heap.size ≠ g3 by omega)).trans BK1.out)
  have BK2 := Aside0.mk ((Below.heap_setCell ((((((z2).setCell ⟨g3, 12, none⟩ (.int .i64 c.o)).setCell ⟨g3, 13, none⟩ (.int .i64 c.i)).setCell ⟨g3, 14, none⟩ (.int .i64 c.u)).setCell ⟨g3, 15, none⟩ (.int .i64 c.n)).setCell ⟨g3, 16, none⟩ (.int .i64 c.w)) ⟨g3, 17, none⟩ (.int .i64 c.c) g2 (show g2 ≠ g3 by omega)).trans BK2.out)
  have BK3 := Aside0.mk (blk_put BK3.out 17 (.int .i64 c.c) (show (row18 _ _ _).setIfInBounds 17 _ = row18 a b ⟨c.o, c.i, c.u, c.n, c.w, c.c⟩ from rfl))
  replace BK3 : Aside0 ((((((((z2).setCell ⟨g3, 12, none⟩ (.int .i64 c.o)).setCell ⟨g3, 13, none⟩ (.int .i64 c.i)).setCell ⟨g3, 14, none⟩ (.int .i64 c.u)).setCell ⟨g3, 15, none⟩ (.int .i64 c.n)).setCell ⟨g3, 16, none⟩ (.int .i64 c.w)).setCell ⟨g3, 17, none⟩ (.int .i64 c.c)).heap[g3]? = some (.cells (row18 a b c) 34 (0, 0))) := ⟨BK3.out⟩
  generalize ((((((z2).setCell ⟨g3, 12, none⟩ (.int .i64 c.o)).setCell ⟨g3, 13, none⟩ (.int .i64 c.i)).setCell ⟨g3, 14, none⟩ (.int .i64 c.u)).setCell ⟨g3, 15, none⟩ (.int .i64 c.n)).setCell ⟨g3, 16, none⟩ (.int .i64 c.w)).setCell ⟨g3, 17, none⟩ (.int .i64 c.c) = y3 at HB BK1 BK2 BK3 ⊢
  rw [rounds_succ]
  go_wp2_with (first | ((with_reducible refine gate_dst (N := 15) rfl ?_); refine wpList_load_row rfl 34 (.tmp 3) rfl g3 rfl 34 _ (0, 0) _ BK3.out Try.underlying34 rfl (by kernel_rfl) ?_) | ((with_reducible refine gate_store (t := 34) (p := 2) (v := .tmp 15) rfl ?_); refine Shut.out ?_))
  unfold Shut
  refine store_rowTo rfl 34 (.tmp 2) (.tmp 15) rfl rfl g2 (row18 a b c) rfl rfl 34 _ BK2.out (by kernel_rfl) rfl (row18_all _ _ _) ?_
  have HBn := Aside0.mk (row_below (g := g2) HB.out (by omega) (row18 a b c))
  have BKn := Aside0.mk (setRow_heap _ _ _ (row18 a b c) _ _ BK2.out)
  clear HB BK2
  go_wp2_with fail
  exact bodyPost_ret (v := .agg (row18 a b c)) (results_cell_row Try.results13 _ _ g2 34 _ (0, 0) _ rfl BKn.out Try.underlying34 rfl (by kernel_rfl)) rfl ⟨rfl, HBn.out⟩


end Go.Proofs.Ytgeeffnokedllaa.Print
