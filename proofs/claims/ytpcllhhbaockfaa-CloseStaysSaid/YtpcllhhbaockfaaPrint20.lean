-- written by this session's program wip/hybrid.py over the kit's printer, and by hand. Not trusted: Lean checks it.
import Derived.Test.YtpcllhhbaockfaaPrint0
import Derived.Test.YtpcllhhbaockfaaPrint1
import Derived.Test.YtpcllhhbaockfaaPrint7
import Derived.Test.YtpcllhhbaockfaaPrint9
import Derived.Test.YtpcllhhbaockfaaPrint12
import Derived.Test.YtpcllhhbaockfaaPrint16
import Derived.Test.YtpcllhhbaockfaaPrint17
import Derived.Test.YtpcllhhbaockfaaPrint18
import Derived.Test.YtpcllhhbaockfaaPrint19
namespace Go.Proofs.Ytpcllhhbaockfaa.Print
open Go.RowKit Go.Proofs.YtpcllhhbaockfaaW.PrintWords Go.Proofs.YtpcllhhbaockfaaW.PrintLast Go.Proofs.YtpcllhhbaockfaaW.PrintMore
attribute [local go_sem] max2_int min2_int max_two min_two max_three min_three max_four min_four   -- for this text's walks alone
set_option linter.unusedVariables false
set_option linter.unusedSimpArgs false

/-! ### close_Ties: function 12 -/
theorem add_ok (a b : Int) (h : -9223372036854775808 ≤ a + b ∧ a + b ≤ 9223372036854775807) : money_Add.f a b = some (a + b, 0) := by
  have e : wrap64 (a + b) = a + b := by unfold wrap64; omega
  unfold money_Add.f money_sum_int64.f
  rw [e]
  by_cases c1 : a < 0
  · by_cases c2 : b < 0
    · rw [decide_eq_true c1, decide_eq_true c2, decide_eq_true (show a + b < 0 by omega)]; rfl
    · rw [decide_eq_true c1, decide_eq_false c2]; rfl
  · by_cases c2 : b < 0
    · rw [decide_eq_false c1, decide_eq_true c2]; rfl
    · rw [decide_eq_false c1, decide_eq_false c2, decide_eq_false (show ¬ a + b < 0 by omega)]; rfl
theorem sub_ok (a b : Int) (h : -9223372036854775808 ≤ a - b ∧ a - b ≤ 9223372036854775807) : money_Sub.f a b = some (a - b, 0) := by
  have e : wrap64 (a - b) = a - b := by unfold wrap64; omega
  unfold money_Sub.f
  rw [e]
  by_cases c1 : a < 0
  · by_cases c2 : b < 0
    · rw [decide_eq_true c1, decide_eq_true c2]; rfl
    · rw [decide_eq_true c1, decide_eq_false c2, decide_eq_true (show a - b < 0 by omega)]; rfl
  · by_cases c2 : b < 0
    · rw [decide_eq_false c1, decide_eq_true c2, decide_eq_false (show ¬ a - b < 0 by omega)]; rfl
    · rw [decide_eq_false c1, decide_eq_false c2]; rfl
def grow (x : Rep) : Array Value := #[.int .i64 x.o, .int .i64 x.a, .int .i64 x.i, .int .i64 x.e, .int .i64 x.r, .int .i64 x.w, .int .i64 x.c]
theorem grow_all (x : Rep) : (grow x).all (·.oneCell') = true := by kernel_rfl
theorem grow_st (x : Rep) {W : World} {g : Nat} {t : TypeId} {fr : Nat × Nat} (h : W.heap[g]? = some (.cells x.cs t fr)) : ∀ j v, (grow x).toList[j]? = some v → W.cell? ((⟨g, 1, none⟩ : Addr).add j) = some v := by
  intro j v hj
  have hlt : j < 7 := (List.getElem?_eq_some_iff.1 hj).1
  have hadd : (⟨g, 1, none⟩ : Addr).add j = ⟨g, 1 + j, none⟩ := by unfold Addr.add; split <;> simp_all
  rw [hadd, cell_of_row W g (1 + j) _ t fr h, ← hj]
  rcases (show j = 0 ∨ j = 1 ∨ j = 2 ∨ j = 3 ∨ j = 4 ∨ j = 5 ∨ j = 6 by omega) with rfl | rfl | rfl | rfl | rfl | rfl | rfl <;> rfl
/-- A report that is right by itself. -/
structure Good (x : Rep) : Prop where
  a1 : inr64 (x.o + x.a)
  a2 : inr64 (x.o + x.a + x.i)
  a3 : inr64 (x.o + x.a + x.i + x.e)
  a4 : inr64 (x.o + x.a + x.i + x.e - x.r)
  a5 : inr64 (x.o + x.a + x.i + x.e - x.r - x.w)
  eq : x.o + x.a + x.i + x.e - x.r - x.w = x.c
  t0 : allow_Ties.f x.s0.o x.s0.i x.s0.u x.s0.n x.s0.w x.s0.c = some true
  t1 : allow_Ties.f x.s1.o x.s1.i x.s1.u x.s1.n x.s1.w x.s1.c = some true
  t2 : allow_Ties.f x.s2.o x.s2.i x.s2.u x.s2.n x.s2.w x.s2.c = some true
  n0 : x.s0.inr
  n1 : x.s1.inr
  n2 : x.s2.inr
  net : (allow_Net.g x.s0 x.s1 x.s2).2 = 0
  tot : ∃ q e1 e2, money_Sum.f [x.s0.i, x.s1.i, x.s2.i] = some (q, e1) ∧ money_Sum.f [x.s0.u, x.s1.u, x.s2.u] = some (q, e2)
theorem ties_at (a : Row6) {w : World} (h : allow_Ties.f a.o a.i a.u a.n a.w a.c = some true) : Calls Try.prog 20 #[.agg (rw6 a)] w fun e w' => e = .returned (.bool true) ∧ Below w.heap.size w w' := allow_Ties.calls a.o a.i a.u a.n a.w a.c true w h
theorem st_slice (g : Nat) (W : World) : (Instr.sliceAt 39 (.pointer (some ⟨g, 8, none⟩)) none none none).run Try.prog W = .ok (.slice (some ⟨g, 8, none⟩) 3 3) W := by kernel_rfl
theorem two_ix0 (a b : Int) (W : World) : (Instr.index 69 (.agg #[.int .i64 a, .int .i64 b]) (.int .i64 0)).run Try.prog W = .ok (.int .i64 a) W := by kernel_rfl
theorem two_ix1 (a b : Int) (W : World) : (Instr.index 69 (.agg #[.int .i64 a, .int .i64 b]) (.int .i64 1)).run Try.prog W = .ok (.int .i64 b) W := by kernel_rfl
theorem net_row (a : Row6) : row6 a = rw6 a := rfl
set_option maxHeartbeats 16000000 in
set_option maxRecDepth 100000 in
theorem close_Ties.calls (x : Rep) (h : Good x) (w : World) : Calls Try.prog 12 #[.agg x.cs] w fun e w' => e = .returned (.bool true) ∧ Below w.heap.size w w' := by
  obtain ⟨n, hn⟩ : ∃ n, allow_Net.g x.s0 x.s1 x.s2 = (n, 0) := ⟨_, Prod.ext rfl h.net⟩
  obtain ⟨q, e1, e2, ht1, ht2⟩ := h.tot
  have HN := Aside0.mk hn
  have HG := Aside0.mk h
  have HT1 := Aside0.mk ht1
  have HT2 := Aside0.mk ht2
  have hb := below_alloc (Below.refl w.heap.size w) (.cells x.cs 41)
  have k0 := blk_new w (.cells x.cs 41)
  have HB := Aside0.mk hb
  have H1 := Aside0.mk k0
  clear hn h ht1 ht2 hb k0
  go_enter Try.func12, Try.ntmps12
  go_upto_region 1 with fail
  obtain ⟨g1, hg1⟩ : ∃ g, g = w.heap.size := ⟨_, rfl⟩
  rw [← hg1] at H1 ⊢
  generalize w.alloc (.cells x.cs 41) = w1 at HB H1 ⊢
  clear hg1
  go_wp2_with (first | ((with_reducible refine gate_dst (N := 19) rfl ?_); refine wpl_value rfl (load_run_at 36 (.tmp 18) rfl ⟨g1, 1, none⟩ rfl (grow x).toList _ (grow_st x H1.out) Try.underlying36 rfl (by kernel_rfl)) ?_) | ((with_reducible refine gate_store (t := 36) (p := 3) (v := .tmp 19) rfl ?_); refine Shut.out ?_))
  unfold Shut
  change wpList _ _ _ _ _ (w1.alloc (.cells (grow Rep.z) 36))
  obtain ⟨hnb, hnk⟩ := newbk w1 (grow Rep.z) (grow x) 36
  refine store_rowTo rfl 36 (.tmp 3) (.tmp 19) rfl rfl w1.heap.size (grow x) rfl rfl 36 _ (blk_new w1 _) (by kernel_rfl) rfl (grow_all _) ?_
  have HB' := Aside0.mk (below_step HB.out hnb)
  have H1' := Aside0.mk (blk_below H1.out hnb)
  have H3 := Aside0.mk hnk
  clear HB H1 hnb hnk
  generalize (w1.alloc (.cells (grow Rep.z) 36)).setRow w1.heap.size (grow x) = w2 at HB' H1' H3 ⊢
  generalize w1.heap.size = g3 at H3 ⊢
  have HB := HB'
  have H1 := H1'
  clear HB' H1'
  obtain ⟨s1, hs1⟩ : ∃ s, s = x.o + x.a := ⟨_, rfl⟩
  obtain ⟨s2, hs2⟩ : ∃ s, s = s1 + x.i := ⟨_, rfl⟩
  obtain ⟨s3, hs3⟩ : ∃ s, s = s2 + x.e := ⟨_, rfl⟩
  obtain ⟨s4, hs4⟩ : ∃ s, s = s3 - x.r := ⟨_, rfl⟩
  have A1 := Aside0.mk (show money_Add.f x.o x.a = some (s1, 0) by rw [hs1]; exact add_ok _ _ HG.out.a1)
  have A2 := Aside0.mk (show money_Add.f s1 x.i = some (s2, 0) by rw [hs2, hs1]; exact add_ok _ _ HG.out.a2)
  have A3 := Aside0.mk (show money_Add.f s2 x.e = some (s3, 0) by rw [hs3, hs2, hs1]; exact add_ok _ _ HG.out.a3)
  have A4 := Aside0.mk (show money_Sub.f s3 x.r = some (s4, 0) by rw [hs4, hs3, hs2, hs1]; exact sub_ok _ _ HG.out.a4)
  have A5 := Aside0.mk (show money_Sub.f s4 x.w = some (x.c, 0) by rw [hs4, hs3, hs2, hs1, ← HG.out.eq]; exact sub_ok _ _ HG.out.a5)
  clear hs1 hs2 hs3 hs4
  have q0 := fun W => two_ix0 x.i x.e W
  have q1 := fun W => two_ix1 x.i x.e W
  have q2 := fun W => two_ix0 x.r x.w W
  have q3 := fun W => two_ix1 x.r x.w W
  have d0 : w2.cell? ⟨g3, 0, none⟩ = some (.int .i64 x.o) := (blk_cell H3.out 0).trans rfl
  have d1 : w2.cell? ⟨g3, 1, none⟩ = some (.int .i64 x.a) := (blk_cell H3.out 1).trans rfl
  go_wp2_with fail
  clear d0 d1
  refine (money_Add.calls _ _ _ _ _ A1.out).mono ?_
  rintro e w3 ⟨rfl, hd⟩
  have HB' := Aside0.mk (below_step HB.out hd.below)
  have H1' := Aside0.mk (blk_below H1.out hd.below)
  have H3' := Aside0.mk (blk_below H3.out hd.below)
  clear HB H1 H3 hd
  have HB := HB'
  have H1 := H1'
  have H3 := H3'
  clear HB' H1' H3'
  have d2 : w3.cell? ⟨g3, 2, none⟩ = some (.int .i64 x.i) := (blk_cell H3.out 2).trans rfl
  have d3 : w3.cell? ⟨g3, 3, none⟩ = some (.int .i64 x.e) := (blk_cell H3.out 3).trans rfl
  go_wp2_with fail
  clear d2 d3
  refine wp_loop_rounds 3 ?_
  rw [rounds_succ]
  go_wp2_with fail
  refine (money_Add.calls _ _ _ _ _ A2.out).mono ?_
  rintro e w4 ⟨rfl, hd⟩
  have HB' := Aside0.mk (below_step HB.out hd.below)
  have H1' := Aside0.mk (blk_below H1.out hd.below)
  have H3' := Aside0.mk (blk_below H3.out hd.below)
  clear HB H1 H3 hd
  have HB := HB'
  have H1 := H1'
  have H3 := H3'
  clear HB' H1' H3'
  go_wp2_with fail
  rw [rounds_succ]
  go_wp2_with fail
  refine (money_Add.calls _ _ _ _ _ A3.out).mono ?_
  rintro e w5 ⟨rfl, hd⟩
  have HB' := Aside0.mk (below_step HB.out hd.below)
  have H1' := Aside0.mk (blk_below H1.out hd.below)
  have H3' := Aside0.mk (blk_below H3.out hd.below)
  clear HB H1 H3 hd
  have HB := HB'
  have H1 := H1'
  have H3 := H3'
  clear HB' H1' H3'
  have d4 : w5.cell? ⟨g3, 4, none⟩ = some (.int .i64 x.r) := (blk_cell H3.out 4).trans rfl
  have d5 : w5.cell? ⟨g3, 5, none⟩ = some (.int .i64 x.w) := (blk_cell H3.out 5).trans rfl
  go_wp2_with fail
  rw [rounds_succ]
  go_wp2_with fail
  clear d4 d5
  refine wp_loop_rounds 3 ?_
  rw [rounds_succ]
  go_wp2_with fail
  refine (money_Sub.calls _ _ _ _ _ A4.out).mono ?_
  rintro e w6 ⟨rfl, hd⟩
  have HB' := Aside0.mk (below_step HB.out hd.below)
  have H1' := Aside0.mk (blk_below H1.out hd.below)
  have H3' := Aside0.mk (blk_below H3.out hd.below)
  clear HB H1 H3 hd
  have HB := HB'
  have H1 := H1'
  have H3 := H3'
  clear HB' H1' H3'
  go_wp2_with fail
  rw [rounds_succ]
  go_wp2_with fail
  refine (money_Sub.calls _ _ _ _ _ A5.out).mono ?_
  rintro e w7 ⟨rfl, hd⟩
  have HB' := Aside0.mk (below_step HB.out hd.below)
  have H1' := Aside0.mk (blk_below H1.out hd.below)
  have H3' := Aside0.mk (blk_below H3.out hd.below)
  clear HB H1 H3 hd
  have HB := HB'
  have H1 := H1'
  have H3 := H3'
  clear HB' H1' H3'
  have d6 : w7.cell? ⟨g3, 6, none⟩ = some (.int .i64 x.c) := (blk_cell H3.out 6).trans rfl
  go_wp2_with fail
  rw [rounds_succ]
  have hi0 := fun W => row18_ix0 x.s0 x.s1 x.s2 W
  have hi1 := fun W => row18_ix1 x.s0 x.s1 x.s2 W
  have hi2 := fun W => row18_ix2 x.s0 x.s1 x.s2 W
  go_wp2_with ((with_reducible refine gate_dst (N := 71) rfl ?_); refine wpl_value rfl (load_run_at 39 (.tmp 70) rfl ⟨g1, 8, none⟩ rfl (row18 x.s0 x.s1 x.s2).toList _ (Rep.st x H1.out) Try.underlying39 rfl (by kernel_rfl)) ?_)
  clear d6 H3
  refine wp_loop_rounds 4 ?_

  rw [rounds_succ]
  go_wp2_with ((with_reducible refine gate_store (t := 38) (p := 11) (v := .tmp 74) rfl ?_); refine Shut.out ?_)
  unfold Shut
  change wpList _ _ _ _ _ (w7.alloc (.cells (rw6 Row6.z) 38))
  obtain ⟨hnb, hnk⟩ := newbk w7 (rw6 Row6.z) (rw6 x.s0) 38
  refine store_rowTo rfl 38 (.tmp 11) (.tmp 74) rfl rfl w7.heap.size (rw6 x.s0) rfl rfl 38 _ (blk_new w7 _) (by kernel_rfl) rfl (rw6_all _) ?_
  have HB' := Aside0.mk (below_step HB.out hnb)
  have H1' := Aside0.mk (blk_below H1.out hnb)
  have H11 := Aside0.mk hnk
  clear HB H1 hnb hnk
  generalize (w7.alloc (.cells (rw6 Row6.z) 38)).setRow w7.heap.size (rw6 x.s0) = w8 at HB' H1' H11 ⊢
  generalize w7.heap.size = g110 at H11 ⊢
  go_wp2_with ((with_reducible refine gate_dst (N := 75) rfl ?_); refine wpList_load_row rfl 38 (.tmp 11) rfl g110 rfl 38 _ (0, 0) _ H11.out Try.underlying38 rfl (by kernel_rfl) ?_)
  refine (ties_at x.s0 HG.out.t0).mono ?_
  rintro e w10 ⟨rfl, hb⟩
  have HB := Aside0.mk (below_step HB'.out hb)
  have H1 := Aside0.mk (blk_below H1'.out hb)
  clear HB' H1' H11 hb
  go_wp2_with fail

  rw [rounds_succ]
  go_wp2_with ((with_reducible refine gate_store (t := 38) (p := 11) (v := .tmp 74) rfl ?_); refine Shut.out ?_)
  unfold Shut
  change wpList _ _ _ _ _ (w10.alloc (.cells (rw6 Row6.z) 38))
  obtain ⟨hnb, hnk⟩ := newbk w10 (rw6 Row6.z) (rw6 x.s1) 38
  refine store_rowTo rfl 38 (.tmp 11) (.tmp 74) rfl rfl w10.heap.size (rw6 x.s1) rfl rfl 38 _ (blk_new w10 _) (by kernel_rfl) rfl (rw6_all _) ?_
  have HB' := Aside0.mk (below_step HB.out hnb)
  have H1' := Aside0.mk (blk_below H1.out hnb)
  have H11 := Aside0.mk hnk
  clear HB H1 hnb hnk
  generalize (w10.alloc (.cells (rw6 Row6.z) 38)).setRow w10.heap.size (rw6 x.s1) = w11 at HB' H1' H11 ⊢
  generalize w10.heap.size = g111 at H11 ⊢
  go_wp2_with ((with_reducible refine gate_dst (N := 75) rfl ?_); refine wpList_load_row rfl 38 (.tmp 11) rfl g111 rfl 38 _ (0, 0) _ H11.out Try.underlying38 rfl (by kernel_rfl) ?_)
  refine (ties_at x.s1 HG.out.t1).mono ?_
  rintro e w13 ⟨rfl, hb⟩
  have HB := Aside0.mk (below_step HB'.out hb)
  have H1 := Aside0.mk (blk_below H1'.out hb)
  clear HB' H1' H11 hb
  go_wp2_with fail

  rw [rounds_succ]
  go_wp2_with ((with_reducible refine gate_store (t := 38) (p := 11) (v := .tmp 74) rfl ?_); refine Shut.out ?_)
  unfold Shut
  change wpList _ _ _ _ _ (w13.alloc (.cells (rw6 Row6.z) 38))
  obtain ⟨hnb, hnk⟩ := newbk w13 (rw6 Row6.z) (rw6 x.s2) 38
  refine store_rowTo rfl 38 (.tmp 11) (.tmp 74) rfl rfl w13.heap.size (rw6 x.s2) rfl rfl 38 _ (blk_new w13 _) (by kernel_rfl) rfl (rw6_all _) ?_
  have HB' := Aside0.mk (below_step HB.out hnb)
  have H1' := Aside0.mk (blk_below H1.out hnb)
  have H11 := Aside0.mk hnk
  clear HB H1 hnb hnk
  generalize (w13.alloc (.cells (rw6 Row6.z) 38)).setRow w13.heap.size (rw6 x.s2) = w14 at HB' H1' H11 ⊢
  generalize w13.heap.size = g112 at H11 ⊢
  go_wp2_with ((with_reducible refine gate_dst (N := 75) rfl ?_); refine wpList_load_row rfl 38 (.tmp 11) rfl g112 rfl 38 _ (0, 0) _ H11.out Try.underlying38 rfl (by kernel_rfl) ?_)
  refine (ties_at x.s2 HG.out.t2).mono ?_
  rintro e w16 ⟨rfl, hb⟩
  have HB := Aside0.mk (below_step HB'.out hb)
  have H1 := Aside0.mk (blk_below H1'.out hb)
  clear HB' H1' H11 hb
  go_wp2_with fail

  rw [rounds_succ]
  clear hi0 hi1 hi2
  go_wp2_with ((with_reducible refine gate_dst (N := 81) rfl ?_); refine wpl_value rfl (load_run_at 39 (.tmp 80) rfl ⟨g1, 8, none⟩ rfl (row18 x.s0 x.s1 x.s2).toList _ (Rep.st x H1.out) Try.underlying39 rfl (by kernel_rfl)) ?_)
  refine (allow_Net.go_ x.s0 x.s1 x.s2 ⟨HG.out.n0⟩ ⟨HG.out.n1⟩ ⟨HG.out.n2⟩ _ HN).mono ?_
  rintro e w17 ⟨rfl, hb⟩
  have HB' := Aside0.mk (below_step HB.out hb)
  have H1' := Aside0.mk (blk_below H1.out hb)
  clear HB H1 hb
  go_wp2_with ((with_reducible refine gate_store (t := 38) (p := 12) (v := .tmp 83) rfl ?_); refine Shut.out ?_)
  unfold Shut
  change wpList _ _ _ _ _ (w17.alloc (.cells (rw6 Row6.z) 38))
  obtain ⟨hnb, hnk⟩ := newbk w17 (rw6 Row6.z) (rw6 n) 38
  refine store_rowTo rfl 38 (.tmp 12) (.tmp 83) rfl rfl w17.heap.size (rw6 n) rfl rfl 38 _ (blk_new w17 _) (by kernel_rfl) rfl (rw6_all _) ?_
  have HB := Aside0.mk (below_step HB'.out hnb)
  have H1 := Aside0.mk (blk_below H1'.out hnb)
  clear HB' H1' hnb hnk
  generalize (w17.alloc (.cells (rw6 Row6.z) 38)).setRow w17.heap.size (rw6 n) = w18 at HB H1 ⊢
  generalize w17.heap.size = g12
  have hsl := fun W => st_slice g1 W
  go_wp2_with fail
  refine (allow_Row.total 23 ties_ok23 (fun a => a.i) ties_c23 x H1.out HT1.out).mono ?_
  rintro e w19 ⟨rfl, hb⟩
  have HB' := Aside0.mk (below_step HB.out hb)
  have H1' := Aside0.mk (blk_below H1.out hb)
  clear HB H1 hb
  go_wp2_with fail
  refine (allow_Row.total 24 ties_ok24 (fun a => a.u) ties_c24 x H1'.out HT2.out).mono ?_
  rintro e w20 ⟨rfl, hb⟩
  have HB := Aside0.mk (below_step HB'.out hb)
  clear HB' H1' hb
  go_wp2_with fail
  go_ret
  first | exact ⟨rfl, HB.out⟩ | (simp only [beq_self_eq_true]; exact ⟨rfl, HB.out⟩) | (refine ⟨?_, HB.out⟩; simp)


end Go.Proofs.Ytpcllhhbaockfaa.Print
