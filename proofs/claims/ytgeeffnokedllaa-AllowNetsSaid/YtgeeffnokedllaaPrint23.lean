-- written by this session's program wip/hybrid.py over the kit's printer, and by hand. Not trusted: Lean checks it.
import Derived.Test.YtgeeffnokedllaaPrint0
import Derived.Test.YtgeeffnokedllaaPrint1
import Derived.Test.YtgeeffnokedllaaPrint4
import Derived.Test.YtgeeffnokedllaaPrint5
import Derived.Test.YtgeeffnokedllaaPrint6
import Derived.Test.YtgeeffnokedllaaPrint7
import Derived.Test.YtgeeffnokedllaaPrint8
import Derived.Test.YtgeeffnokedllaaPrint19
import Derived.Test.YtgeeffnokedllaaPrint21
import Derived.Test.YtgeeffnokedllaaPrint22
namespace Go.Proofs.Ytgeeffnokedllaa.Print
open Go.RowKit Go.Proofs.YtgeeffnokedllaaW.PrintWords Go.Proofs.YtgeeffnokedllaaW.PrintLast Go.Proofs.YtgeeffnokedllaaW.PrintMore
attribute [local go_sem] max2_int min2_int max_two min_two max_three min_three max_four min_four   -- for this text's walks alone
set_option linter.unusedVariables false
set_option linter.unusedSimpArgs false

/-! ### lombardlaw16_AllowNets: function 7 -/
/-- A load of a whole row, as one step of a region. -/
theorem load_runN {P : Program} {o : Oper} {ev : Operand → Value} {w : World} (ty : TypeId) (x : Operand) (ho : o.op = .load ty x) (g : Nat) (hx : ev x = .pointer (some ⟨g, 0, none⟩)) (t : TypeId) (cs : Array Value) (fr : Nat × Nat) (d : TypeDesc) (hg : w.heap[g]? = some (.cells cs t fr))
    (hu : P.underlying ty = some d) (hd : (match d with | .struct _ | .array _ _ => true | _ => false) = true) (hi : (P.info? ty).map (·.size) = some cs.size) :
    (execOp ev o).run P w = .ok (.value (.agg cs)) w := by
  unfold execOp
  simp only [ho, hx, Instr.loadAt, Instr.sureAddr, Sem.run_bind, Sem.run_pure, Result.andThen_ok, run_loadVar_row w g t ty cs fr d hg hu hd hi]
theorem lombardlaw16_AllowNets.eqA33 (d : Nat) (w : World) (x0 y0 : Int) (x1 y1 : Int) (x2 y2 : Int) (x3 y3 : Int) (x4 y4 : Int) (x5 y5 : Int) :
    (Op.equalIn (d + 2) 33 (.agg #[.int .i64 x0, .int .i64 x1, .int .i64 x2, .int .i64 x3, .int .i64 x4, .int .i64 x5]) (.agg #[.int .i64 y0, .int .i64 y1, .int .i64 y2, .int .i64 y3, .int .i64 y4, .int .i64 y5])).run Try.prog w = .ok (x0 == y0 && (x1 == y1 && (x2 == y2 && (x3 == y3 && (x4 == y4 && (x5 == y5)))))) w := by
  refine eqA_of Try.underlying33 (by kernel_rfl) ?_
  refine eqf_cons (by rfl) (by go_simp; rfl) (by go_simp; rfl) (by go_simp) ?_
  refine eqf_cons (by rfl) (by go_simp; rfl) (by go_simp; rfl) (by go_simp) ?_
  refine eqf_cons (by rfl) (by go_simp; rfl) (by go_simp; rfl) (by go_simp) ?_
  refine eqf_cons (by rfl) (by go_simp; rfl) (by go_simp; rfl) (by go_simp) ?_
  refine eqf_cons (by rfl) (by go_simp; rfl) (by go_simp; rfl) (by go_simp) ?_
  exact eqf_last (by rfl) (by go_simp; rfl) (by go_simp; rfl) (by go_simp)

theorem mAdd_at (a b : Int) (ha : rn_inr a) (hb : rn_inr b) : money_Add.f a b = some (rn_told (a + b)) := by
  unfold rn_inr at ha hb
  unfold money_Add.f money_sum_int64.f money_told.f
  by_cases c1 : a < 0
  · by_cases c2 : b < 0
    · rw [decide_eq_true c1, decide_eq_true c2]
      by_cases c3 : -9223372036854775808 ≤ a + b
      · rw [rn_told_in c3 (by omega), rn_w64 c3 (by omega), decide_eq_true (show a + b < 0 by omega)]; rfl
      · have e : ¬ wrap64 (a + b) < 0 := by unfold wrap64; omega
        rw [rn_told_out (by omega), decide_eq_false e]; rfl
    · rw [decide_eq_true c1, decide_eq_false c2, rn_told_in (by omega) (by omega), rn_w64 (by omega) (by omega)]; rfl
  · by_cases c2 : b < 0
    · rw [decide_eq_false c1, decide_eq_true c2, rn_told_in (by omega) (by omega), rn_w64 (by omega) (by omega)]; rfl
    · rw [decide_eq_false c1, decide_eq_false c2]
      by_cases c3 : a + b ≤ 9223372036854775807
      · rw [rn_told_in (by omega) c3, rn_w64 (by omega) c3, decide_eq_false (show ¬ a + b < 0 by omega)]; rfl
      · have e : wrap64 (a + b) < 0 := by unfold wrap64; omega
        rw [rn_told_out (by omega), decide_eq_true e]; rfl
theorem mSub_at (a b : Int) (ha : rn_inr a) (hb : rn_inr b) : money_Sub.f a b = some (rn_told (a - b)) := by
  unfold rn_inr at ha hb
  unfold money_Sub.f money_told.f
  by_cases c1 : a < 0
  · by_cases c2 : b < 0
    · rw [decide_eq_true c1, decide_eq_true c2, rn_told_in (by omega) (by omega), rn_w64 (by omega) (by omega)]; rfl
    · rw [decide_eq_true c1, decide_eq_false c2]
      by_cases c3 : -9223372036854775808 ≤ a - b
      · rw [rn_told_in c3 (by omega), rn_w64 c3 (by omega), decide_eq_true (show a - b < 0 by omega)]; rfl
      · have e : ¬ wrap64 (a - b) < 0 := by unfold wrap64; omega
        rw [rn_told_out (by omega), decide_eq_false e]; rfl
  · by_cases c2 : b < 0
    · rw [decide_eq_false c1, decide_eq_true c2]
      by_cases c3 : a - b ≤ 9223372036854775807
      · rw [rn_told_in (by omega) c3, rn_w64 (by omega) c3, decide_eq_false (show ¬ a - b < 0 by omega)]; rfl
      · have e : wrap64 (a - b) < 0 := by unfold wrap64; omega
        rw [rn_told_out (by omega), decide_eq_true e]; rfl
    · rw [decide_eq_false c1, decide_eq_false c2, rn_told_in (by omega) (by omega), rn_w64 (by omega) (by omega)]; rfl
theorem rSub_at (a b : Int) (ha : rn_inr a) (hb : rn_inr b) : lombardref01_Sub.f a b = some (rn_told (a - b)) := by
  obtain ⟨a1, a2⟩ := ha
  obtain ⟨b1, b2⟩ := hb
  unfold lombardref01_Sub.f
  by_cases c : b < 0
  · rw [if_pos c, rn_w64 (by omega) (by omega)]
    by_cases d : a > 9223372036854775807 + b
    · rw [if_pos d, rn_told_out (by omega)]
    · rw [if_neg d, if_neg (by omega), rn_told_in (by omega) (by omega), rn_w64 (by omega) (by omega)]
  · rw [if_neg c]
    by_cases e : b > 0
    · rw [if_pos e, rn_w64 (x := -9223372036854775808 + b) (by omega) (by omega)]
      by_cases d : a < -9223372036854775808 + b
      · rw [if_pos d, rn_told_out (by omega)]
      · rw [if_neg d, rn_told_in (by omega) (by omega), rn_w64 (by omega) (by omega)]
    · rw [if_neg e, rn_told_in (by omega) (by omega), rn_w64 (by omega) (by omega)]
theorem told_yes {x : Int} (h : rn_inr x) : rn_told x = (x, 0) := by unfold rn_told; rw [if_pos h]
theorem told_no {x : Int} (h : ¬ rn_inr x) : rn_told x = (0, 3) := by unfold rn_told; rw [if_neg h]
theorem ties_eq (a : Row6) (h : a.inr) : ∃ t, allow_Ties.f a.o a.i a.u a.n a.w a.c = some t ∧ lombardref16_Ties.f a.o a.i a.u a.n a.w a.c = some t := by
  obtain ⟨h1, h2, h3, h4, h5, h6⟩ := h
  unfold allow_Ties.f allow_Row_close.f lombardref16_Ties.f
  rw [mAdd_at _ _ h1 h2, rn_Add_at _ _ h1 h2]
  simp only [Option.bind_some]
  by_cases c1 : rn_inr (a.o + a.i)
  · rw [told_yes c1]
    simp only [if_true]
    rw [mAdd_at _ _ c1 h4, rn_Add_at _ _ c1 h4]
    simp only [Option.bind_some]
    by_cases c2 : rn_inr (a.o + a.i + a.n)
    · rw [told_yes c2]
      simp only [if_true]
      rw [mSub_at _ _ c2 h3, rSub_at _ _ c2 h3]
      simp only [Option.bind_some]
      by_cases c3 : rn_inr (a.o + a.i + a.n - a.u)
      · rw [told_yes c3]
        simp only [if_true]
        rw [mSub_at _ _ c3 h5, rSub_at _ _ c3 h5]
        simp only [Option.bind_some]
        by_cases c4 : rn_inr (a.o + a.i + a.n - a.u - a.w)
        · rw [told_yes c4]; exact ⟨_, rfl, rfl⟩
        · rw [told_no c4]; exact ⟨_, rfl, rfl⟩
      · rw [told_no c3]; exact ⟨_, rfl, rfl⟩
    · rw [told_no c2]; exact ⟨_, rfl, rfl⟩
  · rw [told_no c1]; exact ⟨_, rfl, rfl⟩
instance (a : Row6) : Decidable a.inr := by unfold Row6.inr; infer_instance
theorem net_inr (a b c : Row6) : (allow_Net.g a b c).1.inr := by
  unfold allow_Net.g
  split
  · rename_i h; exact h
  · unfold Row6.inr Row6.z inr64; simp
def lombardlaw16_AllowNets.f (a0_0 a0_1 a0_2 a0_3 a0_4 a0_5 a0_6 a0_7 a0_8 a0_9 a0_10 a0_11 a0_12 a0_13 a0_14 a0_15 a0_16 a0_17 : Int) : Option Bool := if Row6.inr ⟨a0_0, a0_1, a0_2, a0_3, a0_4, a0_5⟩ ∧ Row6.inr ⟨a0_6, a0_7, a0_8, a0_9, a0_10, a0_11⟩ ∧ Row6.inr ⟨a0_12, a0_13, a0_14, a0_15, a0_16, a0_17⟩ then some true else none
theorem lombardlaw16_AllowNets.netc (a b c : Row6) (ha : Aside0 a.inr) (hb0 : Aside0 b.inr) (hc : Aside0 c.inr) (w : World) {n : Row6} {e : Int} (h : allow_Net.g a b c = (n, e)) : Calls Try.prog 14 #[.agg #[.int .i64 a.o, .int .i64 a.i, .int .i64 a.u, .int .i64 a.n, .int .i64 a.w, .int .i64 a.c, .int .i64 b.o, .int .i64 b.i, .int .i64 b.u, .int .i64 b.n, .int .i64 b.w, .int .i64 b.c, .int .i64 c.o, .int .i64 c.i, .int .i64 c.u, .int .i64 c.n, .int .i64 c.w, .int .i64 c.c]] w fun e_ w' => e_ = .returned (.tuple #[.agg (row6 n), .int .i64 e]) ∧ Below w.heap.size w w' :=
  allow_Net.go_ a b c ha hb0 hc w (r := (n, e)) ⟨h⟩
theorem lombardlaw16_AllowNets.rnetc (a b c : Row6) (ha : Aside0 a.inr) (hb0 : Aside0 b.inr) (hc : Aside0 c.inr) (w : World) {n : Row6} {e : Int} (h : allow_Net.g a b c = (n, e)) : Calls Try.prog 15 #[.agg (row18 a b c)] w fun e_ w' => e_ = .returned (.tuple #[.agg (row6 n), .int .i64 e]) ∧ Below w.heap.size w w' :=
  lombardref16_Net.go_ a b c ha hb0 hc w (r := (n, e)) ⟨h⟩
theorem lombardlaw16_AllowNets.tc (a : Row6) {t : Bool} (h : allow_Ties.f a.o a.i a.u a.n a.w a.c = some t) (w : World) : Calls Try.prog 16 #[.agg (row6 a)] w fun e w' => e = .returned (.bool t) ∧ Below w.heap.size w w' := allow_Ties.calls _ _ _ _ _ _ t w h
theorem lombardlaw16_AllowNets.rtc (a : Row6) {t : Bool} (h : lombardref16_Ties.f a.o a.i a.u a.n a.w a.c = some t) (w : World) : Calls Try.prog 17 #[.agg (row6 a)] w fun e w' => e = .returned (.bool t) ∧ Below w.heap.size w w' := lombardref16_Ties.calls _ _ _ _ _ _ t w h
theorem lombardlaw16_AllowNets.tcl (a : Row6) {t : Bool} (h : allow_Ties.f a.o a.i a.u a.n a.w a.c = some t) (w : World) : Calls Try.prog 16 #[.agg #[.int .i64 a.o, .int .i64 a.i, .int .i64 a.u, .int .i64 a.n, .int .i64 a.w, .int .i64 a.c]] w fun e w' => e = .returned (.bool t) ∧ Below w.heap.size w w' := allow_Ties.calls _ _ _ _ _ _ t w h
theorem lombardlaw16_AllowNets.rtcl (a : Row6) {t : Bool} (h : lombardref16_Ties.f a.o a.i a.u a.n a.w a.c = some t) (w : World) : Calls Try.prog 17 #[.agg #[.int .i64 a.o, .int .i64 a.i, .int .i64 a.u, .int .i64 a.n, .int .i64 a.w, .int .i64 a.c]] w fun e w' => e = .returned (.bool t) ∧ Below w.heap.size w w' := lombardref16_Ties.calls _ _ _ _ _ _ t w h
set_option maxHeartbeats 16000000 in
set_option maxRecDepth 100000 in
theorem lombardlaw16_AllowNets.walk (a b c : Row6) (ha : Aside0 a.inr) (hb0 : Aside0 b.inr) (hc : Aside0 c.inr) (w : World) {n : Row6} {e : Int} {t1 t2 : Bool} (hg : Aside0 (allow_Net.g a b c = (n, e))) (ht1 : Aside0 (allow_Ties.f a.o a.i a.u a.n a.w a.c = some t1)) (hr1 : Aside0 (lombardref16_Ties.f a.o a.i a.u a.n a.w a.c = some t1)) (ht2 : Aside0 (allow_Ties.f n.o n.i n.u n.n n.w n.c = some t2)) (hr2 : Aside0 (lombardref16_Ties.f n.o n.i n.u n.n n.w n.c = some t2)) :
    Calls Try.prog 7 #[.agg (row18 a b c)] w fun e w' => e = .returned (.bool true) ∧ Below w.heap.size w w' := by
  go_enter Try.func7, Try.ntmps7
  go_wp2_with fail
  with_reducible refine (lombardlaw16_alive.calls true _ rfl).mono ?_
  rintro e_ w1 ⟨rfl, hb⟩
  have HB := Aside0.mk (below_step (w := w) (below_alloc (Below.refl _ _) _) hb)
  have BK1 := Aside0.mk (blk_below (blk_new w (.cells (row18 a b c) 34)) hb)
  clear hb
  have hk0 : w1.cell? ⟨w.heap.size, 0, none⟩ = some (.int .i64 a.o) := blk_cell BK1.out 0
  have hk1 : w1.cell? ⟨w.heap.size, 1, none⟩ = some (.int .i64 a.i) := blk_cell BK1.out 1
  have hk2 : w1.cell? ⟨w.heap.size, 2, none⟩ = some (.int .i64 a.u) := blk_cell BK1.out 2
  have hk3 : w1.cell? ⟨w.heap.size, 3, none⟩ = some (.int .i64 a.n) := blk_cell BK1.out 3
  have hk4 : w1.cell? ⟨w.heap.size, 4, none⟩ = some (.int .i64 a.w) := blk_cell BK1.out 4
  have hk5 : w1.cell? ⟨w.heap.size, 5, none⟩ = some (.int .i64 a.c) := blk_cell BK1.out 5
  have hk6 : w1.cell? ⟨w.heap.size, 6, none⟩ = some (.int .i64 b.o) := blk_cell BK1.out 6
  have hk7 : w1.cell? ⟨w.heap.size, 7, none⟩ = some (.int .i64 b.i) := blk_cell BK1.out 7
  have hk8 : w1.cell? ⟨w.heap.size, 8, none⟩ = some (.int .i64 b.u) := blk_cell BK1.out 8
  have hk9 : w1.cell? ⟨w.heap.size, 9, none⟩ = some (.int .i64 b.n) := blk_cell BK1.out 9
  have hk10 : w1.cell? ⟨w.heap.size, 10, none⟩ = some (.int .i64 b.w) := blk_cell BK1.out 10
  have hk11 : w1.cell? ⟨w.heap.size, 11, none⟩ = some (.int .i64 b.c) := blk_cell BK1.out 11
  have hk12 : w1.cell? ⟨w.heap.size, 12, none⟩ = some (.int .i64 c.o) := blk_cell BK1.out 12
  have hk13 : w1.cell? ⟨w.heap.size, 13, none⟩ = some (.int .i64 c.i) := blk_cell BK1.out 13
  have hk14 : w1.cell? ⟨w.heap.size, 14, none⟩ = some (.int .i64 c.u) := blk_cell BK1.out 14
  have hk15 : w1.cell? ⟨w.heap.size, 15, none⟩ = some (.int .i64 c.n) := blk_cell BK1.out 15
  have hk16 : w1.cell? ⟨w.heap.size, 16, none⟩ = some (.int .i64 c.w) := blk_cell BK1.out 16
  have hk17 : w1.cell? ⟨w.heap.size, 17, none⟩ = some (.int .i64 c.c) := blk_cell BK1.out 17
  go_wp2_with fail
  with_reducible refine (lombardlaw16_AllowNets.netc a b c ha hb0 hc _ hg.out).mono ?_
  rintro e_ w2 ⟨rfl, hb⟩
  have n_HB := Aside0.mk (below_alloc (below_step HB.out hb) (.cells #[.int .i64 0, .int .i64 0, .int .i64 0, .int .i64 0, .int .i64 0, .int .i64 0] 26))
  have n_BK1 := Aside0.mk (blk_alloc (blk_below BK1.out hb) (.cells #[.int .i64 0, .int .i64 0, .int .i64 0, .int .i64 0, .int .i64 0, .int .i64 0] 26))
  have n_BK3 := Aside0.mk (show (w2.alloc (.cells #[.int .i64 0, .int .i64 0, .int .i64 0, .int .i64 0, .int .i64 0, .int .i64 0] 26)).heap[w2.heap.size]? = some (.cells (row6 Row6.z) 26 (0, 0)) from blk_new w2 _)
  have hg3 := blk_lt (blk_below BK1.out hb)
  clear HB BK1 hb hk0 hk1 hk2 hk3 hk4 hk5 hk6 hk7 hk8 hk9 hk10 hk11 hk12 hk13 hk14 hk15 hk16 hk17
  go_wp2_with ((with_reducible refine gate_store (t := 26) (p := 3) (v := .tmp 18) rfl ?_); refine Shut.out ?_)
  unfold Shut
  generalize w2.alloc (.cells #[.int .i64 0, .int .i64 0, .int .i64 0, .int .i64 0, .int .i64 0, .int .i64 0] 26) = w3 at n_HB n_BK1 n_BK3 ⊢
  generalize w2.heap.size = g3 at n_BK3 hg3 ⊢
  have HB := n_HB
  clear n_HB
  have BK1 := n_BK1
  clear n_BK1
  have BK3 := n_BK3
  clear n_BK3
  refine store_rowTo rfl 26 (.tmp 3) (.tmp 18) rfl rfl g3 (row6 n) rfl rfl 26 _ BK3.out (by kernel_rfl) rfl (all6n _ _ _ _ _ _) ?_
  have n_HB := Aside0.mk (row_below (g := g3) HB.out (by omega) (row6 n))
  have n_BK3 := Aside0.mk (setRow_heap _ _ _ (row6 n) _ _ BK3.out)
  have n_BK1 := Aside0.mk ((setRow_other w3 g3 w.heap.size (row6 n) (by omega)).trans BK1.out)
  clear HB BK3 BK1
  generalize w3.setRow g3 (row6 n) = w4 at n_HB n_BK3 n_BK1 ⊢
  have HB := n_HB
  clear n_HB
  have BK3 := n_BK3
  clear n_BK3
  have BK1 := n_BK1
  clear n_BK1
  go_wp2_with ((with_reducible refine gate_dst (N := 21) rfl ?_); refine wpList_load_row rfl 34 (.tmp 1) rfl w.heap.size rfl 34 _ (0, 0) _ BK1.out Try.underlying34 rfl (by kernel_rfl) ?_)
  with_reducible refine (lombardlaw16_AllowNets.rnetc a b c ha hb0 hc _ hg.out).mono ?_
  rintro e_ w5 ⟨rfl, hb⟩
  have n_HB := Aside0.mk (below_alloc (below_step HB.out hb) (.cells #[.int .i64 0, .int .i64 0, .int .i64 0, .int .i64 0, .int .i64 0, .int .i64 0] 33))
  have n_BK1 := Aside0.mk (blk_alloc (blk_below BK1.out hb) (.cells #[.int .i64 0, .int .i64 0, .int .i64 0, .int .i64 0, .int .i64 0, .int .i64 0] 33))
  have n_BK3 := Aside0.mk (blk_alloc (blk_below BK3.out hb) (.cells #[.int .i64 0, .int .i64 0, .int .i64 0, .int .i64 0, .int .i64 0, .int .i64 0] 33))
  have n_BK5 := Aside0.mk (show (w5.alloc (.cells #[.int .i64 0, .int .i64 0, .int .i64 0, .int .i64 0, .int .i64 0, .int .i64 0] 33)).heap[w5.heap.size]? = some (.cells (row6 Row6.z) 33 (0, 0)) from blk_new w5 _)
  have hg5 := blk_lt (blk_below BK3.out hb)
  clear HB BK1 BK3 hb
  go_wp2_with ((with_reducible refine gate_store (t := 33) (p := 5) (v := .tmp 23) rfl ?_); refine Shut.out ?_)
  unfold Shut
  generalize w5.alloc (.cells #[.int .i64 0, .int .i64 0, .int .i64 0, .int .i64 0, .int .i64 0, .int .i64 0] 33) = w6 at n_HB n_BK1 n_BK3 n_BK5 ⊢
  generalize w5.heap.size = g5 at n_BK5 hg5 ⊢
  have HB := n_HB
  clear n_HB
  have BK1 := n_BK1
  clear n_BK1
  have BK3 := n_BK3
  clear n_BK3
  have BK5 := n_BK5
  clear n_BK5
  refine store_rowTo rfl 33 (.tmp 5) (.tmp 23) rfl rfl g5 (row6 n) rfl rfl 33 _ BK5.out (by kernel_rfl) rfl (all6n _ _ _ _ _ _) ?_
  have n_HB := Aside0.mk (row_below (g := g5) HB.out (by omega) (row6 n))
  have n_BK5 := Aside0.mk (setRow_heap _ _ _ (row6 n) _ _ BK5.out)
  have n_BK1 := Aside0.mk ((setRow_other w6 g5 w.heap.size (row6 n) (by omega)).trans BK1.out)
  have n_BK3 := Aside0.mk ((setRow_other w6 g5 g3 (row6 n) (by omega)).trans BK3.out)
  clear HB BK5 BK1 BK3
  generalize w6.setRow g5 (row6 n) = w7 at n_HB n_BK5 n_BK1 n_BK3 ⊢
  have HB := n_HB
  clear n_HB
  have BK5 := n_BK5
  clear n_BK5
  have BK1 := n_BK1
  clear n_BK1
  have BK3 := n_BK3
  clear n_BK3
  go_wp2_with fail
  have n_HB := Aside0.mk (below_drew1 HB.out)
  have n_BK1 := Aside0.mk (blk_drew BK1.out)
  have n_BK3 := Aside0.mk (blk_drew BK3.out)
  have n_BK5 := Aside0.mk (blk_drew BK5.out)
  clear HB BK1 BK3 BK5
  have HB := n_HB
  clear n_HB
  have BK1 := n_BK1
  clear n_BK1
  have BK3 := n_BK3
  clear n_BK3
  have BK5 := n_BK5
  clear n_BK5
  have heq : ∀ d W, (Op.equalIn (d + 2) 33 (.agg (row6 n)) (.agg (row6 n))).run Try.prog W = .ok true W := fun d W => by unfold row6; rw [lombardlaw16_AllowNets.eqA33]; simp
  refine start_ (n := 25) (S := fun w' => w'.cell? ⟨w.heap.size, 0, none⟩ = some (.int .i64 a.o) ∧ w'.cell? ⟨w.heap.size, 1, none⟩ = some (.int .i64 a.i) ∧ w'.cell? ⟨w.heap.size, 2, none⟩ = some (.int .i64 a.u) ∧ w'.cell? ⟨w.heap.size, 3, none⟩ = some (.int .i64 a.n) ∧ w'.cell? ⟨w.heap.size, 4, none⟩ = some (.int .i64 a.w) ∧ w'.cell? ⟨w.heap.size, 5, none⟩ = some (.int .i64 a.c) ∧ w'.heap[g3]? = some (.cells (row6 n) 26 (0, 0)) ∧ w'.heap[g5]? = some (.cells (row6 n) 33 (0, 0))) (ds := []) #[false, false, false, false, false, false, false, false, false, false, false, false, false, false, false, false, false, false, false, false, false, false, false, false, false] (by kernel_rfl) rfl rfl ⟨(blk_cell BK1.out 0).trans rfl, (blk_cell BK1.out 1).trans rfl, (blk_cell BK1.out 2).trans rfl, (blk_cell BK1.out 3).trans rfl, (blk_cell BK1.out 4).trans rfl, (blk_cell BK1.out 5).trans rfl, BK3.out, BK5.out⟩ (fun hHeld => ?_)
  generalize w7.drew = w8 at HB BK1 BK3 BK5 hHeld ⊢
  refine take_ (i := 0) (N := some 25) (v := ?_) (a' := ?_) #[true, false, false, false, false, false, false, false, false, false, false, false, false, false, false, false, false, false, false, false, false, false, false, false, false] rfl rfl (by kernel_rfl) (fun _ _ _ h => h) (Or.inl ⟨by rfl, ?_⟩) hHeld ?_ ?_
  rotate_left
  · rintro w' ⟨s0, s1, s2, s3, s4, s5, s6, s7⟩
    refine load_runN 26 (.tmp 3) ?_ g3 ?_ 26 _ (0, 0) _ s6 Try.underlying26 rfl (by kernel_rfl) <;> rfl
  rotate_left
  · simp only [Act.put, List.setIfInBounds_toArray, List.set_cons_zero, List.set_cons_succ, i64_w, i32_w]
    rfl
  refine take_ (i := 1) (N := some 26) (v := ?_) (a' := ?_) #[true, true, false, false, false, false, false, false, false, false, false, false, false, false, false, false, false, false, false, false, false, false, false, false, false] rfl rfl (by kernel_rfl) (fun _ _ _ h => h) (Or.inl ⟨by rfl, ?_⟩) hHeld ?_ ?_
  rotate_left
  · rintro w' ⟨s0, s1, s2, s3, s4, s5, s6, s7⟩
    refine load_runN 33 (.tmp 5) ?_ g5 ?_ 33 _ (0, 0) _ s7 Try.underlying33 rfl (by kernel_rfl) <;> rfl
  rotate_left
  · simp only [Act.put, List.setIfInBounds_toArray, List.set_cons_zero, List.set_cons_succ, i64_w, i32_w]
    rfl
  refine pure_ (i := 2) (N := some 27) (v := ?_) (a' := ?_) #[true, true, true, false, false, false, false, false, false, false, false, false, false, false, false, false, false, false, false, false, false, false, false, false, false] rfl rfl (by kernel_rfl) (fun _ _ _ h => h) (Or.inl ⟨by rfl, ?_⟩) ?_ ?_
  rotate_left
  · intro w'
    go_simp
    with_reducible rfl
  rotate_left
  · simp only [Act.put, List.setIfInBounds_toArray, List.set_cons_zero, List.set_cons_succ, i64_w, i32_w]
    rfl
  refine pure_ (i := 3) (N := some 28) (v := ?_) (a' := ?_) #[true, true, true, true, false, false, false, false, false, false, false, false, false, false, false, false, false, false, false, false, false, false, false, false, false] rfl rfl (by kernel_rfl) (fun _ _ _ h => h) (Or.inl ⟨by rfl, ?_⟩) ?_ ?_
  rotate_left
  · intro w'
    go_simp
    with_reducible rfl
  rotate_left
  · simp only [Act.put, List.setIfInBounds_toArray, List.set_cons_zero, List.set_cons_succ, i64_w, i32_w]
    rfl
  refine pure_ (i := 4) (N := some 29) (v := ?_) (a' := ?_) #[true, true, true, true, true, false, false, false, false, false, false, false, false, false, false, false, false, false, false, false, false, false, false, false, false] rfl rfl (by kernel_rfl) (fun _ _ _ h => h) (Or.inl ⟨by rfl, ?_⟩) ?_ ?_
  rotate_left
  · intro w'
    go_simp
    with_reducible rfl
  rotate_left
  · simp only [Act.put, List.setIfInBounds_toArray, List.set_cons_zero, List.set_cons_succ, i64_w, i32_w]
    rfl
  refine pure_ (i := 5) (N := some 30) (v := ?_) (a' := ?_) #[true, true, true, true, true, true, false, false, false, false, false, false, false, false, false, false, false, false, false, false, false, false, false, false, false] rfl rfl (by kernel_rfl) (fun _ _ _ h => h) (Or.inl ⟨by rfl, ?_⟩) ?_ ?_
  rotate_left
  · intro w'
    go_simp
    with_reducible rfl
  rotate_left
  · simp only [Act.put, List.setIfInBounds_toArray, List.set_cons_zero, List.set_cons_succ, i64_w, i32_w]
    rfl
  refine pure_ (i := 6) (N := some 31) (v := ?_) (a' := ?_) #[true, true, true, true, true, true, true, false, false, false, false, false, false, false, false, false, false, false, false, false, false, false, false, false, false] rfl rfl (by kernel_rfl) (fun _ _ _ h => h) (Or.inl ⟨by rfl, ?_⟩) ?_ ?_
  rotate_left
  · intro w'
    go_simp
    with_reducible rfl
  rotate_left
  · simp only [Act.put, List.setIfInBounds_toArray, List.set_cons_zero, List.set_cons_succ, i64_w, i32_w]
    rfl
  refine pure_ (i := 7) (N := some 32) (v := ?_) (a' := ?_) #[true, true, true, true, true, true, true, true, false, false, false, false, false, false, false, false, false, false, false, false, false, false, false, false, false] rfl rfl (by kernel_rfl) (fun _ _ _ h => h) (Or.inl ⟨by rfl, ?_⟩) ?_ ?_
  rotate_left
  · intro w'
    go_simp
    with_reducible rfl
  rotate_left
  · simp only [Act.put, List.setIfInBounds_toArray, List.set_cons_zero, List.set_cons_succ, i64_w, i32_w]
    rfl
  refine pure_ (i := 8) (N := some 33) (v := ?_) (a' := ?_) #[true, true, true, true, true, true, true, true, true, false, false, false, false, false, false, false, false, false, false, false, false, false, false, false, false] rfl rfl (by kernel_rfl) (fun _ _ _ h => h) (Or.inl ⟨by rfl, ?_⟩) ?_ ?_
  rotate_left
  · intro w'
    go_simp
    with_reducible rfl
  rotate_left
  · simp only [Act.put, List.setIfInBounds_toArray, List.set_cons_zero, List.set_cons_succ, i64_w, i32_w]
    rfl
  refine pure_ (i := 9) (N := some 34) (v := ?_) (a' := ?_) #[true, true, true, true, true, true, true, true, true, true, false, false, false, false, false, false, false, false, false, false, false, false, false, false, false] rfl rfl (by kernel_rfl) (fun _ _ _ h => h) (Or.inl ⟨by rfl, ?_⟩) ?_ ?_
  rotate_left
  · intro w'
    go_simp
    with_reducible rfl
  rotate_left
  · simp only [Act.put, List.setIfInBounds_toArray, List.set_cons_zero, List.set_cons_succ, i64_w, i32_w]
    rfl
  refine pure_ (i := 12) (N := some 37) (v := ?_) (a' := ?_) #[true, true, true, true, true, true, true, true, true, true, false, false, true, false, false, false, false, false, false, false, false, false, false, false, false] rfl rfl (by kernel_rfl) (fun _ _ _ h => h) (Or.inl ⟨by rfl, ?_⟩) ?_ ?_
  rotate_left
  · intro w'
    go_simp
    with_reducible rfl
  rotate_left
  · simp only [Act.put, List.setIfInBounds_toArray, List.set_cons_zero, List.set_cons_succ, i64_w, i32_w]
    rfl
  refine take_ (i := 10) (N := some 35) (v := ?_) (a' := ?_) #[true, true, true, true, true, true, true, true, true, true, true, false, true, false, false, false, false, false, false, false, false, false, false, false, false] rfl rfl (by kernel_rfl) (fun _ _ _ h => h) (Or.inl ⟨by rfl, ?_⟩) hHeld ?_ ?_
  rotate_left
  · rintro w' ⟨s0, s1, s2, s3, s4, s5, s6, s7⟩
    go_simp
    with_reducible rfl
  rotate_left
  · simp only [Act.put, List.setIfInBounds_toArray, List.set_cons_zero, List.set_cons_succ, i64_w, i32_w]
    rfl
  refine take_ (i := 13) (N := some 38) (v := ?_) (a' := ?_) #[true, true, true, true, true, true, true, true, true, true, true, false, true, true, false, false, false, false, false, false, false, false, false, false, false] rfl rfl (by kernel_rfl) (fun _ _ _ h => h) (Or.inl ⟨by rfl, ?_⟩) hHeld ?_ ?_
  rotate_left
  · rintro w' ⟨s0, s1, s2, s3, s4, s5, s6, s7⟩
    go_simp
    with_reducible rfl
  rotate_left
  · simp only [Act.put, List.setIfInBounds_toArray, List.set_cons_zero, List.set_cons_succ, i64_w, i32_w]
    rfl
  refine one_ (i := 11) (N := some 36) #[true, true, true, true, true, true, true, true, true, true, true, true, true, true, false, false, false, false, false, false, false, false, false, false, false] rfl rfl (by kernel_rfl) (by decide) (fun K hK => ?_)
  refine goes_ Try.func16 (by kernel_rfl) rfl #[.agg #[.int .i64 a.o, .int .i64 a.i, .int .i64 a.u, .int .i64 a.n, .int .i64 a.w, .int .i64 a.c]] (by rfl) rfl rfl (by (try simp only [List.map_toArray, List.map_cons, List.map_nil]); first | done | rfl) ?_
  with_reducible refine (lombardlaw16_AllowNets.tcl a ht1.out _).mono ?_
  rintro e y1_ ⟨rfl, hb⟩
  refine ⟨_, rfl, ?_⟩
  have n_HB := Aside0.mk (below_step HB.out hb)
  have n_BK1 := Aside0.mk (blk_below BK1.out hb)
  have n_BK3 := Aside0.mk (blk_below BK3.out hb)
  have n_BK5 := Aside0.mk (blk_below BK5.out hb)
  clear HB
  have HB := n_HB
  clear n_HB
  clear BK1
  have BK1 := n_BK1
  clear n_BK1
  clear BK3
  have BK3 := n_BK3
  clear n_BK3
  clear BK5
  have BK5 := n_BK5
  clear n_BK5
  clear hb
  refine hK.out _ _ ⟨(blk_cell BK1.out 0).trans rfl, (blk_cell BK1.out 1).trans rfl, (blk_cell BK1.out 2).trans rfl, (blk_cell BK1.out 3).trans rfl, (blk_cell BK1.out 4).trans rfl, (blk_cell BK1.out 5).trans rfl, BK3.out, BK5.out⟩ (fun hHeld => ?_)
  clear hK K
  refine norm_ (a' := ?_) ?_ ?_
  rotate_left
  · show Act.put _ (some 36) _ = _
    simp only [Act.put, List.setIfInBounds_toArray, List.set_cons_zero, List.set_cons_succ, i64_w, i32_w]
    rfl
  refine one_ (i := 14) (N := some 39) #[true, true, true, true, true, true, true, true, true, true, true, true, true, true, true, false, false, false, false, false, false, false, false, false, false] rfl rfl (by kernel_rfl) (by decide) (fun K hK => ?_)
  refine goes_ Try.func17 (by kernel_rfl) rfl #[.agg #[.int .i64 a.o, .int .i64 a.i, .int .i64 a.u, .int .i64 a.n, .int .i64 a.w, .int .i64 a.c]] (by rfl) rfl rfl (by (try simp only [List.map_toArray, List.map_cons, List.map_nil]); first | done | rfl) ?_
  with_reducible refine (lombardlaw16_AllowNets.rtcl a hr1.out _).mono ?_
  rintro e y2_ ⟨rfl, hb⟩
  refine ⟨_, rfl, ?_⟩
  have n_HB := Aside0.mk (below_step HB.out hb)
  have n_BK1 := Aside0.mk (blk_below BK1.out hb)
  have n_BK3 := Aside0.mk (blk_below BK3.out hb)
  have n_BK5 := Aside0.mk (blk_below BK5.out hb)
  clear HB
  have HB := n_HB
  clear n_HB
  clear BK1
  have BK1 := n_BK1
  clear n_BK1
  clear BK3
  have BK3 := n_BK3
  clear n_BK3
  clear BK5
  have BK5 := n_BK5
  clear n_BK5
  clear hb
  refine hK.out _ _ ⟨(blk_cell BK1.out 0).trans rfl, (blk_cell BK1.out 1).trans rfl, (blk_cell BK1.out 2).trans rfl, (blk_cell BK1.out 3).trans rfl, (blk_cell BK1.out 4).trans rfl, (blk_cell BK1.out 5).trans rfl, BK3.out, BK5.out⟩ (fun hHeld => ?_)
  clear hK K
  refine norm_ (a' := ?_) ?_ ?_
  rotate_left
  · show Act.put _ (some 39) _ = _
    simp only [Act.put, List.setIfInBounds_toArray, List.set_cons_zero, List.set_cons_succ, i64_w, i32_w]
    rfl
  refine pure_ (i := 15) (N := some 40) (v := ?_) (a' := ?_) #[true, true, true, true, true, true, true, true, true, true, true, true, true, true, true, true, false, false, false, false, false, false, false, false, false] rfl rfl (by kernel_rfl) (fun _ _ _ h => h) (Or.inl ⟨by rfl, ?_⟩) ?_ ?_
  rotate_left
  · intro w'
    go_simp
    with_reducible rfl
  rotate_left
  · simp only [Act.put, List.setIfInBounds_toArray, List.set_cons_zero, List.set_cons_succ, i64_w, i32_w]
    rfl
  refine pure_ (i := 16) (N := some 41) (v := ?_) (a' := ?_) #[true, true, true, true, true, true, true, true, true, true, true, true, true, true, true, true, true, false, false, false, false, false, false, false, false] rfl rfl (by kernel_rfl) (fun _ _ _ h => h) (Or.inl ⟨by rfl, ?_⟩) ?_ ?_
  rotate_left
  · intro w'
    go_simp
    with_reducible rfl
  rotate_left
  · simp only [Act.put, List.setIfInBounds_toArray, List.set_cons_zero, List.set_cons_succ, i64_w, i32_w]
    rfl
  refine pure_ (i := 17) (N := some 42) (v := ?_) (a' := ?_) #[true, true, true, true, true, true, true, true, true, true, true, true, true, true, true, true, true, true, false, false, false, false, false, false, false] rfl rfl (by kernel_rfl) (fun _ _ _ h => h) (Or.inl ⟨by rfl, ?_⟩) ?_ ?_
  rotate_left
  · intro w'
    go_simp
    with_reducible rfl
  rotate_left
  · simp only [Act.put, List.setIfInBounds_toArray, List.set_cons_zero, List.set_cons_succ, i64_w, i32_w]
    rfl
  refine take_ (i := 18) (N := some 43) (v := ?_) (a' := ?_) #[true, true, true, true, true, true, true, true, true, true, true, true, true, true, true, true, true, true, true, false, false, false, false, false, false] rfl rfl (by kernel_rfl) (fun _ _ _ h => h) (Or.inl ⟨by rfl, ?_⟩) hHeld ?_ ?_
  rotate_left
  · rintro w' ⟨s0, s1, s2, s3, s4, s5, s6, s7⟩
    refine load_runN 33 (.tmp 5) ?_ g5 ?_ 33 _ (0, 0) _ s7 Try.underlying33 rfl (by kernel_rfl) <;> rfl
  rotate_left
  · simp only [Act.put, List.setIfInBounds_toArray, List.set_cons_zero, List.set_cons_succ, i64_w, i32_w]
    rfl
  refine take_ (i := 20) (N := some 45) (v := ?_) (a' := ?_) #[true, true, true, true, true, true, true, true, true, true, true, true, true, true, true, true, true, true, true, false, true, false, false, false, false] rfl rfl (by kernel_rfl) (fun _ _ _ h => h) (Or.inl ⟨by rfl, ?_⟩) hHeld ?_ ?_
  rotate_left
  · rintro w' ⟨s0, s1, s2, s3, s4, s5, s6, s7⟩
    refine load_runN 33 (.tmp 5) ?_ g5 ?_ 33 _ (0, 0) _ s7 Try.underlying33 rfl (by kernel_rfl) <;> rfl
  rotate_left
  · simp only [Act.put, List.setIfInBounds_toArray, List.set_cons_zero, List.set_cons_succ, i64_w, i32_w]
    rfl
  refine one_ (i := 19) (N := some 44) #[true, true, true, true, true, true, true, true, true, true, true, true, true, true, true, true, true, true, true, true, true, false, false, false, false] rfl rfl (by kernel_rfl) (by decide) (fun K hK => ?_)
  refine goes_ Try.func16 (by kernel_rfl) rfl #[.agg (row6 n)] (by rfl) rfl rfl (by (try simp only [List.map_toArray, List.map_cons, List.map_nil]); first | done | rfl) ?_
  with_reducible refine (lombardlaw16_AllowNets.tc n ht2.out _).mono ?_
  rintro e y3_ ⟨rfl, hb⟩
  refine ⟨_, rfl, ?_⟩
  have n_HB := Aside0.mk (below_step HB.out hb)
  have n_BK1 := Aside0.mk (blk_below BK1.out hb)
  have n_BK3 := Aside0.mk (blk_below BK3.out hb)
  have n_BK5 := Aside0.mk (blk_below BK5.out hb)
  clear HB
  have HB := n_HB
  clear n_HB
  clear BK1
  have BK1 := n_BK1
  clear n_BK1
  clear BK3
  have BK3 := n_BK3
  clear n_BK3
  clear BK5
  have BK5 := n_BK5
  clear n_BK5
  clear hb
  refine hK.out _ _ ⟨(blk_cell BK1.out 0).trans rfl, (blk_cell BK1.out 1).trans rfl, (blk_cell BK1.out 2).trans rfl, (blk_cell BK1.out 3).trans rfl, (blk_cell BK1.out 4).trans rfl, (blk_cell BK1.out 5).trans rfl, BK3.out, BK5.out⟩ (fun hHeld => ?_)
  clear hK K
  refine norm_ (a' := ?_) ?_ ?_
  rotate_left
  · show Act.put _ (some 44) _ = _
    simp only [Act.put, List.setIfInBounds_toArray, List.set_cons_zero, List.set_cons_succ, i64_w, i32_w]
    rfl
  refine one_ (i := 21) (N := some 46) #[true, true, true, true, true, true, true, true, true, true, true, true, true, true, true, true, true, true, true, true, true, true, false, false, false] rfl rfl (by kernel_rfl) (by decide) (fun K hK => ?_)
  refine goes_ Try.func17 (by kernel_rfl) rfl #[.agg (row6 n)] (by rfl) rfl rfl (by (try simp only [List.map_toArray, List.map_cons, List.map_nil]); first | done | rfl) ?_
  with_reducible refine (lombardlaw16_AllowNets.rtc n hr2.out _).mono ?_
  rintro e y4_ ⟨rfl, hb⟩
  refine ⟨_, rfl, ?_⟩
  have n_HB := Aside0.mk (below_step HB.out hb)
  have n_BK1 := Aside0.mk (blk_below BK1.out hb)
  have n_BK3 := Aside0.mk (blk_below BK3.out hb)
  have n_BK5 := Aside0.mk (blk_below BK5.out hb)
  clear HB
  have HB := n_HB
  clear n_HB
  clear BK1
  have BK1 := n_BK1
  clear n_BK1
  clear BK3
  have BK3 := n_BK3
  clear n_BK3
  clear BK5
  have BK5 := n_BK5
  clear n_BK5
  clear hb
  refine hK.out _ _ ⟨(blk_cell BK1.out 0).trans rfl, (blk_cell BK1.out 1).trans rfl, (blk_cell BK1.out 2).trans rfl, (blk_cell BK1.out 3).trans rfl, (blk_cell BK1.out 4).trans rfl, (blk_cell BK1.out 5).trans rfl, BK3.out, BK5.out⟩ (fun hHeld => ?_)
  clear hK K
  refine norm_ (a' := ?_) ?_ ?_
  rotate_left
  · show Act.put _ (some 46) _ = _
    simp only [Act.put, List.setIfInBounds_toArray, List.set_cons_zero, List.set_cons_succ, i64_w, i32_w]
    rfl
  refine pure_ (i := 22) (N := some 47) (v := ?_) (a' := ?_) #[true, true, true, true, true, true, true, true, true, true, true, true, true, true, true, true, true, true, true, true, true, true, true, false, false] rfl rfl (by kernel_rfl) (fun _ _ _ h => h) (Or.inl ⟨by rfl, ?_⟩) ?_ ?_
  rotate_left
  · intro w'
    go_simp
    with_reducible rfl
  rotate_left
  · simp only [Act.put, List.setIfInBounds_toArray, List.set_cons_zero, List.set_cons_succ, i64_w, i32_w]
    rfl
  refine pure_ (i := 23) (N := some 48) (v := ?_) (a' := ?_) #[true, true, true, true, true, true, true, true, true, true, true, true, true, true, true, true, true, true, true, true, true, true, true, true, false] rfl rfl (by kernel_rfl) (fun _ _ _ h => h) (Or.inl ⟨by rfl, ?_⟩) ?_ ?_
  rotate_left
  · intro w'
    go_simp
    with_reducible rfl
  rotate_left
  · simp only [Act.put, List.setIfInBounds_toArray, List.set_cons_zero, List.set_cons_succ, i64_w, i32_w]
    rfl
  refine pure_ (i := 24) (N := some 2) (v := ?_) (a' := ?_) #[true, true, true, true, true, true, true, true, true, true, true, true, true, true, true, true, true, true, true, true, true, true, true, true, true] rfl rfl (by kernel_rfl) (fun _ _ _ h => h) (Or.inl ⟨by rfl, ?_⟩) ?_ ?_
  rotate_left
  · intro w'
    go_simp
    with_reducible rfl
  rotate_left
  · simp only [Act.put, List.setIfInBounds_toArray, List.set_cons_zero, List.set_cons_succ, i64_w, i32_w]
    rfl
  refine done_ (by kernel_rfl) ?_
  go_wp2_with fail
  go_ret
  exact ⟨rfl, HB.out⟩
theorem lombardlaw16_AllowNets.calls (a0_0 : Int) (a0_1 : Int) (a0_2 : Int) (a0_3 : Int) (a0_4 : Int) (a0_5 : Int) (a0_6 : Int) (a0_7 : Int) (a0_8 : Int) (a0_9 : Int) (a0_10 : Int) (a0_11 : Int) (a0_12 : Int) (a0_13 : Int) (a0_14 : Int) (a0_15 : Int) (a0_16 : Int) (a0_17 : Int) (r : Bool) (w : World) (h : lombardlaw16_AllowNets.f a0_0 a0_1 a0_2 a0_3 a0_4 a0_5 a0_6 a0_7 a0_8 a0_9 a0_10 a0_11 a0_12 a0_13 a0_14 a0_15 a0_16 a0_17 = some r) :
    Calls Try.prog 7 #[.agg #[.int .i64 a0_0, .int .i64 a0_1, .int .i64 a0_2, .int .i64 a0_3, .int .i64 a0_4, .int .i64 a0_5, .int .i64 a0_6, .int .i64 a0_7, .int .i64 a0_8, .int .i64 a0_9, .int .i64 a0_10, .int .i64 a0_11, .int .i64 a0_12, .int .i64 a0_13, .int .i64 a0_14, .int .i64 a0_15, .int .i64 a0_16, .int .i64 a0_17]] w fun e w' => e = .returned (.bool r) ∧ Below w.heap.size w w' := by
  unfold lombardlaw16_AllowNets.f at h
  by_cases hg : Row6.inr ⟨a0_0, a0_1, a0_2, a0_3, a0_4, a0_5⟩ ∧ Row6.inr ⟨a0_6, a0_7, a0_8, a0_9, a0_10, a0_11⟩ ∧ Row6.inr ⟨a0_12, a0_13, a0_14, a0_15, a0_16, a0_17⟩
  · rw [if_pos hg] at h
    obtain rfl := Option.some.inj h
    obtain ⟨t1, h1, h2⟩ := ties_eq ⟨a0_0, a0_1, a0_2, a0_3, a0_4, a0_5⟩ hg.1
    obtain ⟨t2, h3, h4⟩ := ties_eq _ (net_inr ⟨a0_0, a0_1, a0_2, a0_3, a0_4, a0_5⟩ ⟨a0_6, a0_7, a0_8, a0_9, a0_10, a0_11⟩ ⟨a0_12, a0_13, a0_14, a0_15, a0_16, a0_17⟩)
    exact lombardlaw16_AllowNets.walk ⟨a0_0, a0_1, a0_2, a0_3, a0_4, a0_5⟩ ⟨a0_6, a0_7, a0_8, a0_9, a0_10, a0_11⟩ ⟨a0_12, a0_13, a0_14, a0_15, a0_16, a0_17⟩ ⟨hg.1⟩ ⟨hg.2.1⟩ ⟨hg.2.2⟩ w (n := (allow_Net.g ⟨a0_0, a0_1, a0_2, a0_3, a0_4, a0_5⟩ ⟨a0_6, a0_7, a0_8, a0_9, a0_10, a0_11⟩ ⟨a0_12, a0_13, a0_14, a0_15, a0_16, a0_17⟩).1) (e := (allow_Net.g ⟨a0_0, a0_1, a0_2, a0_3, a0_4, a0_5⟩ ⟨a0_6, a0_7, a0_8, a0_9, a0_10, a0_11⟩ ⟨a0_12, a0_13, a0_14, a0_15, a0_16, a0_17⟩).2) ⟨rfl⟩ ⟨h1⟩ ⟨h2⟩ ⟨h3⟩ ⟨h4⟩
  · rw [if_neg hg] at h
    cases h


end Go.Proofs.Ytgeeffnokedllaa.Print
