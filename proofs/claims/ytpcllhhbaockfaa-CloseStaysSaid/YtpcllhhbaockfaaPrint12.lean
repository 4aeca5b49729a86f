-- written by this session's program wip/hybrid.py over the kit's printer, and by hand. Not trusted: Lean checks it.
import Derived.Test.YtpcllhhbaockfaaPrint0
import Derived.Test.YtpcllhhbaockfaaPrint1
import Derived.Test.YtpcllhhbaockfaaPrint9
namespace Go.Proofs.Ytpcllhhbaockfaa.Print
open Go.RowKit Go.Proofs.YtpcllhhbaockfaaW.PrintWords Go.Proofs.YtpcllhhbaockfaaW.PrintLast Go.Proofs.YtpcllhhbaockfaaW.PrintMore
attribute [local go_sem] max2_int min2_int max_two min_two max_three min_three max_four min_four   -- for this text's walks alone
set_option linter.unusedVariables false
set_option linter.unusedSimpArgs false

/-! ### close_Report_opens: function 37 -/
/-- A report: its period; what became of gross amounts (open, outlays, interest, effects, received, written, close); its stages; what was recovered. -/
structure Rep where
  p : Int
  o : Int
  a : Int
  i : Int
  e : Int
  r : Int
  w : Int
  c : Int
  s0 : Row6
  s1 : Row6
  s2 : Row6
  v : Int
def Rep.z : Rep := ⟨0, 0, 0, 0, 0, 0, 0, 0, Row6.z, Row6.z, Row6.z, 0⟩
def Rep.cs (x : Rep) : Array Value := #[.int .i64 x.p, .int .i64 x.o, .int .i64 x.a, .int .i64 x.i, .int .i64 x.e, .int .i64 x.r, .int .i64 x.w, .int .i64 x.c, .int .i64 x.s0.o, .int .i64 x.s0.i, .int .i64 x.s0.u, .int .i64 x.s0.n, .int .i64 x.s0.w, .int .i64 x.s0.c, .int .i64 x.s1.o, .int .i64 x.s1.i, .int .i64 x.s1.u, .int .i64 x.s1.n, .int .i64 x.s1.w, .int .i64 x.s1.c, .int .i64 x.s2.o, .int .i64 x.s2.i, .int .i64 x.s2.u, .int .i64 x.s2.n, .int .i64 x.s2.w, .int .i64 x.s2.c, .int .i64 x.v]
def rw6 (a : Row6) : Array Value := #[.int .i64 a.o, .int .i64 a.i, .int .i64 a.u, .int .i64 a.n, .int .i64 a.w, .int .i64 a.c]
theorem Rep.all (x : Rep) : x.cs.all (·.oneCell') = true := by kernel_rfl
theorem rw6_all (a : Row6) : (rw6 a).all (·.oneCell') = true := by kernel_rfl
theorem put_step {w : World} {g t i : Nat} {cs : Array Value} (hg : w.heap[g]? = some (.cells cs t (0, 0))) (v : Value) : w.setCell ⟨g, i, none⟩ v = w.setRow g (cs.setIfInBounds i v) := setCell_eq_setRow w g i cs t (0, 0) v hg
def Rep.op (x : Rep) : Array Value := #[.int .i64 x.s0.o, .int .i64 x.s1.o, .int .i64 x.s2.o]
theorem Rep.op_all (x : Rep) : x.op.all (·.oneCell') = true := by kernel_rfl
theorem Rep.st (x : Rep) {W : World} {g : Nat} {t : TypeId} {fr : Nat × Nat} (h : W.heap[g]? = some (.cells x.cs t fr)) : ∀ j v, (row18 x.s0 x.s1 x.s2).toList[j]? = some v → W.cell? ((⟨g, 8, none⟩ : Addr).add j) = some v := by
  intro j v hj
  have hadd : (⟨g, 8, none⟩ : Addr).add j = ⟨g, 8 + j, none⟩ := by unfold Addr.add; split <;> simp_all
  rw [hadd, cell_of_row W g (8 + j) _ t fr h]
  have hlt : j < 18 := (List.getElem?_eq_some_iff.1 hj).1
  rw [← hj]
  have : j = 0 ∨ j = 1 ∨ j = 2 ∨ j = 3 ∨ j = 4 ∨ j = 5 ∨ j = 6 ∨ j = 7 ∨ j = 8 ∨ j = 9 ∨ j = 10 ∨ j = 11 ∨ j = 12 ∨ j = 13 ∨ j = 14 ∨ j = 15 ∨ j = 16 ∨ j = 17 := by omega
  rcases this with rfl | rfl | rfl | rfl | rfl | rfl | rfl | rfl | rfl | rfl | rfl | rfl | rfl | rfl | rfl | rfl | rfl | rfl <;> rfl
theorem row18_ix0 (a b c : Row6) (W : World) : (Instr.index 39 (.agg (row18 a b c).toList.toArray) (.int .i64 0)).run Try.prog W = .ok (.agg (rw6 a)) W := by kernel_rfl
theorem row18_ix1 (a b c : Row6) (W : World) : (Instr.index 39 (.agg (row18 a b c).toList.toArray) (.int .i64 1)).run Try.prog W = .ok (.agg (rw6 b)) W := by kernel_rfl
theorem row18_ix2 (a b c : Row6) (W : World) : (Instr.index 39 (.agg (row18 a b c).toList.toArray) (.int .i64 2)).run Try.prog W = .ok (.agg (rw6 c)) W := by kernel_rfl
set_option maxHeartbeats 8000000 in
set_option maxRecDepth 100000 in
theorem close_Report_opens.calls (x : Rep) (w : World) : Calls Try.prog 37 #[.agg x.cs] w fun e w' => e = .returned (.agg x.op) ∧ Below w.heap.size w w' := by
  have s1 : (w.alloc (.cells x.cs 41)).heap.size = w.heap.size + 1 := by simp
  have hb := below_alloc (below_alloc (Below.refl w.heap.size w) (.cells x.cs 41)) (.cells #[.int .i64 0, .int .i64 0, .int .i64 0] 61)
  have k0 := blk_alloc (blk_new w (.cells x.cs 41)) (.cells #[.int .i64 0, .int .i64 0, .int .i64 0] 61)
  have k1 := blk_new (w.alloc (.cells x.cs 41)) (.cells #[.int .i64 0, .int .i64 0, .int .i64 0] 61)
  rw [s1] at k1
  have HB := Aside0.mk hb
  have HX := Aside0.mk k0
  have HO := Aside0.mk k1
  clear s1 hb k0 k1
  go_enter Try.func37, Try.ntmps37
  go_upto_region 1 with fail
  generalize (w.alloc (.cells x.cs 41)).alloc (.cells #[.int .i64 0, .int .i64 0, .int .i64 0] 61) = w1 at HB HX HO ⊢
  have hi0 := fun W => row18_ix0 x.s0 x.s1 x.s2 W
  have hi1 := fun W => row18_ix1 x.s0 x.s1 x.s2 W
  have hi2 := fun W => row18_ix2 x.s0 x.s1 x.s2 W
  go_wp2_with ((with_reducible refine gate_dst (N := 6) rfl ?_); refine wpl_value rfl (load_run_at 39 (.tmp 5) rfl ⟨w.heap.size, 8, none⟩ rfl (row18 x.s0 x.s1 x.s2).toList _ (Rep.st x HX.out) Try.underlying39 rfl (by kernel_rfl)) ?_)
  refine wp_loop_rounds 4 ?_
  rw [rounds_succ]
  go_wp2_with ((with_reducible refine gate_store (t := 38) (p := 4) (v := .tmp 10) rfl ?_); refine Shut.out ?_)
  unfold Shut
  change wpList _ _ _ _ _ (w1.alloc (.cells (rw6 Row6.z) 38))
  obtain ⟨hnb, hnk⟩ := newbk w1 (rw6 Row6.z) (rw6 x.s0) 38
  refine store_rowTo rfl 38 (.tmp 4) (.tmp 10) rfl rfl w1.heap.size (rw6 x.s0) rfl rfl 38 _ (blk_new w1 _) (by kernel_rfl) rfl (rw6_all _) ?_
  have HB' := Aside0.mk (below_step HB.out hnb)
  have HO' := Aside0.mk (blk_below HO.out hnb)
  have HN := Aside0.mk hnk
  clear HB HO hnb hnk
  generalize (w1.alloc (.cells (rw6 Row6.z) 38)).setRow w1.heap.size (rw6 x.s0) = w2a at HB' HO' HN ⊢
  generalize w1.heap.size = g2 at HN ⊢
  have h4 : w2a.cell? ⟨g2, 0, none⟩ = some (.int .i64 x.s0.o) := (blk_cell HN.out 0).trans rfl
  have hof := blk_frozen HO'.out 0
  have hoc : w2a.cell? ⟨w.heap.size + 1, 0, none⟩ = some (.int .i64 0) := (blk_cell HO'.out 0).trans rfl
  go_wp2_with fail
  rw [put_step HO'.out]
  have HB := Aside0.mk (row_below HB'.out (Nat.le_succ w.heap.size) (#[.int .i64 0, .int .i64 0, .int .i64 0].setIfInBounds 0 (.int .i64 x.s0.o)))
  have HO := Aside0.mk (setRow_heap w2a (w.heap.size + 1) _ #[.int .i64 x.s0.o, .int .i64 0, .int .i64 0] 61 (0, 0) HO'.out)
  rw [show (#[.int .i64 0, .int .i64 0, .int .i64 0] : Array Value).setIfInBounds 0 (.int .i64 x.s0.o) = #[.int .i64 x.s0.o, .int .i64 0, .int .i64 0] from rfl] at HB ⊢
  clear HB' HO' HN h4 hof hoc
  generalize w2a.setRow (w.heap.size + 1) #[.int .i64 x.s0.o, .int .i64 0, .int .i64 0] = w2 at HB HO ⊢
  rw [rounds_succ]
  go_wp2_with ((with_reducible refine gate_store (t := 38) (p := 4) (v := .tmp 10) rfl ?_); refine Shut.out ?_)
  unfold Shut
  change wpList _ _ _ _ _ (w2.alloc (.cells (rw6 Row6.z) 38))
  obtain ⟨hnb, hnk⟩ := newbk w2 (rw6 Row6.z) (rw6 x.s1) 38
  refine store_rowTo rfl 38 (.tmp 4) (.tmp 10) rfl rfl w2.heap.size (rw6 x.s1) rfl rfl 38 _ (blk_new w2 _) (by kernel_rfl) rfl (rw6_all _) ?_
  have HB' := Aside0.mk (below_step HB.out hnb)
  have HO' := Aside0.mk (blk_below HO.out hnb)
  have HN := Aside0.mk hnk
  clear HB HO hnb hnk
  generalize (w2.alloc (.cells (rw6 Row6.z) 38)).setRow w2.heap.size (rw6 x.s1) = w3a at HB' HO' HN ⊢
  generalize w2.heap.size = g3 at HN ⊢
  have h4 : w3a.cell? ⟨g3, 0, none⟩ = some (.int .i64 x.s1.o) := (blk_cell HN.out 0).trans rfl
  have hof := blk_frozen HO'.out 1
  have hoc : w3a.cell? ⟨w.heap.size + 1, 1, none⟩ = some (.int .i64 0) := (blk_cell HO'.out 1).trans rfl
  go_wp2_with fail
  rw [put_step HO'.out]
  have HB := Aside0.mk (row_below HB'.out (Nat.le_succ w.heap.size) (#[.int .i64 x.s0.o, .int .i64 0, .int .i64 0].setIfInBounds 1 (.int .i64 x.s1.o)))
  have HO := Aside0.mk (setRow_heap w3a (w.heap.size + 1) _ #[.int .i64 x.s0.o, .int .i64 x.s1.o, .int .i64 0] 61 (0, 0) HO'.out)
  rw [show (#[.int .i64 x.s0.o, .int .i64 0, .int .i64 0] : Array Value).setIfInBounds 1 (.int .i64 x.s1.o) = #[.int .i64 x.s0.o, .int .i64 x.s1.o, .int .i64 0] from rfl] at HB ⊢
  clear HB' HO' HN h4 hof hoc
  generalize w3a.setRow (w.heap.size + 1) #[.int .i64 x.s0.o, .int .i64 x.s1.o, .int .i64 0] = w3 at HB HO ⊢
  rw [rounds_succ]
  go_wp2_with ((with_reducible refine gate_store (t := 38) (p := 4) (v := .tmp 10) rfl ?_); refine Shut.out ?_)
  unfold Shut
  change wpList _ _ _ _ _ (w3.alloc (.cells (rw6 Row6.z) 38))
  obtain ⟨hnb, hnk⟩ := newbk w3 (rw6 Row6.z) (rw6 x.s2) 38
  refine store_rowTo rfl 38 (.tmp 4) (.tmp 10) rfl rfl w3.heap.size (rw6 x.s2) rfl rfl 38 _ (blk_new w3 _) (by kernel_rfl) rfl (rw6_all _) ?_
  have HB' := Aside0.mk (below_step HB.out hnb)
  have HO' := Aside0.mk (blk_below HO.out hnb)
  have HN := Aside0.mk hnk
  clear HB HO hnb hnk
  generalize (w3.alloc (.cells (rw6 Row6.z) 38)).setRow w3.heap.size (rw6 x.s2) = w4a at HB' HO' HN ⊢
  generalize w3.heap.size = g4 at HN ⊢
  have h4 : w4a.cell? ⟨g4, 0, none⟩ = some (.int .i64 x.s2.o) := (blk_cell HN.out 0).trans rfl
  have hof := blk_frozen HO'.out 2
  have hoc : w4a.cell? ⟨w.heap.size + 1, 2, none⟩ = some (.int .i64 0) := (blk_cell HO'.out 2).trans rfl
  go_wp2_with fail
  rw [put_step HO'.out]
  have HB := Aside0.mk (row_below HB'.out (Nat.le_succ w.heap.size) (#[.int .i64 x.s0.o, .int .i64 x.s1.o, .int .i64 0].setIfInBounds 2 (.int .i64 x.s2.o)))
  have HO := Aside0.mk (setRow_heap w4a (w.heap.size + 1) _ #[.int .i64 x.s0.o, .int .i64 x.s1.o, .int .i64 x.s2.o] 61 (0, 0) HO'.out)
  rw [show (#[.int .i64 x.s0.o, .int .i64 x.s1.o, .int .i64 0] : Array Value).setIfInBounds 2 (.int .i64 x.s2.o) = #[.int .i64 x.s0.o, .int .i64 x.s1.o, .int .i64 x.s2.o] from rfl] at HB ⊢
  clear HB' HO' HN h4 hof hoc
  generalize w4a.setRow (w.heap.size + 1) #[.int .i64 x.s0.o, .int .i64 x.s1.o, .int .i64 x.s2.o] = w4 at HB HO ⊢
  rw [rounds_succ]
  go_wp2_with (first | ((with_reducible refine gate_dst (N := 16) rfl ?_); refine wpList_load_row rfl 61 (.tmp 2) rfl (w.heap.size + 1) rfl 61 _ (0, 0) _ HO.out Try.underlying61 rfl (by kernel_rfl) ?_) | ((with_reducible refine gate_store (t := 61) (p := 2) (v := .tmp 16) rfl ?_); refine store_rowTo rfl 61 (.tmp 2) (.tmp 16) rfl rfl (w.heap.size + 1) x.op rfl rfl 61 _ HO.out (by kernel_rfl) rfl (x.op_all) ?_))
  exact bodyPost_ret (v := .agg x.op) (results_cell_row Try.results37 _ _ (w.heap.size + 1) 61 _ (0, 0) _ rfl (setRow_heap _ _ _ _ _ _ HO.out) Try.underlying61 rfl (by kernel_rfl)) rfl ⟨rfl, row_below HB.out (Nat.le_succ _) _⟩


end Go.Proofs.Ytpcllhhbaockfaa.Print
