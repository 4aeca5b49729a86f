-- written by this session's program wip/hybrid.py over the kit's printer, and by hand. Not trusted: Lean checks it.
import Derived.Test.YtpcllhhbaockfaaPrint0
import Derived.Test.YtpcllhhbaockfaaPrint1
import Derived.Test.YtpcllhhbaockfaaPrint9
import Derived.Test.YtpcllhhbaockfaaPrint12
import Derived.Test.YtpcllhhbaockfaaPrint13
import Derived.Test.YtpcllhhbaockfaaPrint14
namespace Go.Proofs.Ytpcllhhbaockfaa.Print
open Go.RowKit Go.Proofs.YtpcllhhbaockfaaW.PrintWords Go.Proofs.YtpcllhhbaockfaaW.PrintLast Go.Proofs.YtpcllhhbaockfaaW.PrintMore
attribute [local go_sem] max2_int min2_int max_two min_two max_three min_three max_four min_four   -- for this text's walks alone
set_option linter.unusedVariables false
set_option linter.unusedSimpArgs false

/-! ### close_Closer_Close: function 8 -/
/-- A stage that nothing became of yet. -/
def nrow (c : Int) : Row6 := ⟨c, 0, 0, 0, 0, c⟩
/-- The next period, k of its stages told. -/
def nextK (x : Rep) : Nat → Rep
  | 0 => ⟨wrap64 (x.p + 1), x.c, 0, 0, 0, 0, 0, x.c, Row6.z, Row6.z, Row6.z, 0⟩
  | 1 => ⟨wrap64 (x.p + 1), x.c, 0, 0, 0, 0, 0, x.c, nrow x.s0.c, Row6.z, Row6.z, 0⟩
  | 2 => ⟨wrap64 (x.p + 1), x.c, 0, 0, 0, 0, 0, x.c, nrow x.s0.c, nrow x.s1.c, Row6.z, 0⟩
  | _ => ⟨wrap64 (x.p + 1), x.c, 0, 0, 0, 0, 0, x.c, nrow x.s0.c, nrow x.s1.c, nrow x.s2.c, 0⟩
def nextR (x : Rep) : Rep := nextK x 3
theorem load_run {P : Program} {o : Oper} {ev : Operand → Value} {w : World} (ty : TypeId) (x : Operand) (ho : o.op = .load ty x) (g : Nat) (hx : ev x = .pointer (some ⟨g, 0, none⟩)) (t : TypeId) (cs : Array Value) (fr : Nat × Nat) (d : TypeDesc) (hg : w.heap[g]? = some (.cells cs t fr))
    (hu : P.underlying ty = some d) (hd : (match d with | .struct _ | .array _ _ => true | _ => false) = true) (hi : (P.info? ty).map (·.size) = some cs.size) :
    (execOp ev o).run P w = .ok (.value (.agg cs)) w := by
  unfold execOp
  simp only [ho, hx, Instr.loadAt, Instr.sureAddr, Sem.run_bind, Sem.run_pure, Result.andThen_ok, run_loadVar_row w g t ty cs fr d hg hu hd hi]
theorem rep_one (x : Rep) : ∀ u ∈ x.cs.toList, u.oneCell' = true := by
  have h := Rep.all x
  rw [Array.all_eq_true_iff_forall_mem] at h
  exact fun u hu => h u (by simpa using hu)
theorem raw_one27 {w : World} (x : Rep) {g e : Nat} {fr : Nat × Nat} (h : w.heap[g]? = some (.cells x.cs e fr)) : ReadsRow (fun (y : List Value) cs => cs = y ∧ cs.length = 27 ∧ ∀ u ∈ cs, u.oneCell' = true) 27 w (some ⟨g, 0, none⟩) 1 [x.cs.toList] := by
  refine ⟨rfl, by omega, fun _ => ⟨⟨g, 0, none⟩, rfl, fun j q hj => ?_⟩⟩
  have hj0 : j = 0 := by
    have := (List.getElem?_eq_some_iff.1 hj).1
    simpa using this
  subst hj0
  obtain rfl : x.cs.toList = q := by simpa using hj
  refine ⟨x.cs.toList, rfl, ⟨rfl, rfl, rep_one x⟩, fun i u hu => ?_⟩
  have hadd : (⟨g, 0, none⟩ : Addr).add (0 * 27 + i) = ⟨g, i, none⟩ := by unfold Addr.add; split <;> simp_all
  rw [hadd, cell_of_row w g i _ _ _ h]
  simpa using hu
theorem bslice_run {P : Program} {o : Oper} {ev : Operand → Value} {w w1 : World} {v : Value} (t : TypeId) (len : Nat) (parts : Array (Nat × Operand)) (args : Array (Nat × Value)) (ho : o.op = .buildSlice t len parts) (hp : parts.map (fun x => (x.1, ev x.2)) = args)
    (h : (Instr.buildSlice t len args).run P w = .ok v w1) : (execOp ev o).run P w = .ok (.value v) w1 := by
  unfold execOp
  simp only [ho, hp, Sem.run_bind, h, Result.andThen_ok, Sem.run_pure]
theorem run_one27 (x : Rep) (W : World) : (Instr.buildSlice 54 1 #[(0, .agg x.cs)]).run Try.prog W = .ok (.slice (some ⟨W.heap.size, 0, none⟩) 1 1) (W.alloc (.cells x.cs 41)) := by kernel_rfl
theorem rep_info : (Try.prog.info? 41).map (fun i => (i.zero, i.size, i.bytes)) = some (some (.agg Rep.z.cs), 27, 216) := by kernel_rfl
theorem rep_und : Try.prog.underlying 54 = some (.slice 41) := by kernel_rfl
theorem nrow_lit (c : Int) : rw6 (nrow c) = #[.int .i64 c, .int .i64 0, .int .i64 0, .int .i64 0, .int .i64 0, .int .i64 c] := rfl
variable {B : Nat} {w w' : World} {p t : Nat} {pv cv : Value} {past : List Rep} {x : Rep} {ch : List S64}
theorem CA.far41 (h : CA B w p pv past x t cv ch) {g : Nat} {cells : Array Value} (hg : w.heap[g]? = some (.cells cells 41 (0, 0))) (hne : ∀ k, pv.ownBlock = some k → k ≠ g) (cs : Array Value) : CA B (w.setRow g cs) p pv past x t cv ch :=
  ⟨(setRow_other w g p cs (fun e => by have h1 := h.hp; rw [e, hg] at h1; injection h1 with h1; injection h1 with _ h1; exact absurd h1 (by decide))).trans h.hp, same_R h.hw (fun k hk => setRow_other w g k cs (hne k hk)), R_row h.hc hg (by decide) cs, h.hB⟩
theorem CA.app (h : CA B w p pv past x t cv ch) (hg : w.grownBy w' pv.ownBlock) : w'.heap[p]? = some (.cells (ccells pv x t cv) 57 (0, 0)) ∧ Kd.R k64 64 w' B (fun _ => True) cv ch := by
  refine ⟨blk_grown h.hp hg (Kd.R_ne h.hw h.hp (by decide)), Kd.R_mono (Kd.R_step (Kd.R_bound h.hc) (fun k hk hlt => hg.block k hlt (fun e => ?_))) (fun _ hk => hk.1)⟩
  obtain ⟨_, _, _, q, hq, cs, hc⟩ := hk
  obtain ⟨inner, ho⟩ := Kd.R_own h.hw
  obtain ⟨cs2, h2⟩ := own_typed ho k e.symm
  rw [h2] at hc
  injection hc with hc
  injection hc with _ hc
  have : ∀ q, q ∈ (64 : Nat) :: k64.E → (41 : Nat) ≠ q := by decide
  exact this q hq hc
set_option maxHeartbeats 16000000 in
set_option maxRecDepth 100000 in
theorem close_Closer_Close.calls (h : CA B w p pv past x t cv ch) (hl : past.length ≤ 1000000) :
    Calls Try.prog 8 #[.pointer (some ⟨p, 0, none⟩)] w fun e w' => ∃ pv2, e = .returned (.tuple #[.agg x.cs, .int .i64 0]) ∧ CA B w' p pv2 (past ++ [x]) (nextR x) 0 (.slice none 0 0) [] ∧ Mv (fun k => k = p ∨ pv.ownBlock = some k) (fun k => k = p ∨ pv2.ownBlock = some k) w w' := by
  obtain ⟨Ap, cp, hpv⟩ := Kd.R_slice h.hw
  rw [List.length_map] at hpv
  subst hpv
  have hb := below_alloc (Below.refl w.heap.size w) (.cells Rep.z.cs 41)
  have k0 := blk_new w (.cells Rep.z.cs 41)
  have HB := Aside0.mk hb
  have H2 := Aside0.mk k0
  have HA := Aside0.mk h
  have HNO := Aside0.mk (show ∀ k, (Value.slice Ap past.length cp).ownBlock = some k → k < w.heap.size from fun k hk => by obtain ⟨inner, ho⟩ := Kd.R_own h.hw; exact own_lt ho k hk)
  clear hb k0 h
  go_enter Try.func8, Try.ntmps8
  go_upto_region 1 with fail
  change Code.wp _ _ _ _ (w.alloc (.cells Rep.z.cs 41))
  obtain ⟨g2, hg2⟩ : ∃ g, g = w.heap.size := ⟨_, rfl⟩
  have ge2 := Aside0.mk (Nat.le_of_eq hg2.symm)
  have hlt2 := Aside0.mk (blk_lt H2.out)
  rw [← hg2] at H2 hlt2 ⊢
  generalize w.alloc (.cells Rep.z.cs 41) = w1 at HB H2 hlt2 ⊢
  clear hg2
  go_wp2_with (first | ((with_reducible refine gate_dst (N := 14) rfl ?_); refine wpl_value rfl (load_run_at 41 (.tmp 13) rfl ⟨p, 1, none⟩ rfl x.cs.toList _ (now_st _ x _ _ (HA.out.below HB.out).hp) Try.underlying41 rfl (by kernel_rfl)) ?_) | ((with_reducible refine gate_store (t := 41) (p := 4) (v := .tmp 14) rfl ?_); refine Shut.out ?_))
  unfold Shut
  change wpList _ _ _ _ _ (w1.alloc (.cells Rep.z.cs 41))
  obtain ⟨hnb, hnk⟩ := newbk w1 Rep.z.cs x.cs 41
  refine store_rowTo rfl 41 (.tmp 4) (.tmp 14) rfl rfl w1.heap.size x.cs rfl rfl 41 _ (blk_new w1 _) (by kernel_rfl) rfl (Rep.all x) ?_
  have HB' := Aside0.mk (below_step HB.out hnb)
  have H2' := Aside0.mk (blk_below H2.out hnb)
  have H4 := Aside0.mk hnk
  have ge4 := Aside0.mk HB.out.size
  have ne24 := Aside0.mk (show g2 ≠ w1.heap.size from Nat.ne_of_lt hlt2.out)
  clear HB H2 hnb hnk hlt2
  generalize (w1.alloc (.cells Rep.z.cs 41)).setRow w1.heap.size x.cs = w2 at HB' H2' H4 ⊢
  generalize w1.heap.size = g4 at H4 ne24 ge4 ⊢
  have d0 : w2.cell? ⟨g4, 0, none⟩ = some (.int .i64 x.p) := (blk_cell H4.out 0).trans rfl
  have d7 : w2.cell? ⟨g4, 7, none⟩ = some (.int .i64 x.c) := (blk_cell H4.out 7).trans rfl
  go_wp2_with ((with_reducible refine gate_store (t := 41) (p := 5) (v := .tmp 25) rfl ?_); refine Shut.out ?_)
  unfold Shut
  change wpList _ _ _ _ _ (w2.alloc (.cells Rep.z.cs 41))
  obtain ⟨hnb, hnk⟩ := newbk w2 Rep.z.cs (nextK x 0).cs 41
  refine store_rowTo rfl 41 (.tmp 5) (.tmp 25) rfl rfl w2.heap.size (nextK x 0).cs rfl rfl 41 _ (blk_new w2 _) (by kernel_rfl) rfl (Rep.all _) ?_
  have hlt2 := blk_lt H2'.out
  have hlt4 := blk_lt H4.out
  have HB := Aside0.mk (below_step HB'.out hnb)
  have H2 := Aside0.mk (blk_below H2'.out hnb)
  have H4' := Aside0.mk (blk_below H4.out hnb)
  have H5 := Aside0.mk hnk
  have ne25 := Aside0.mk (show g2 ≠ w2.heap.size from Nat.ne_of_lt hlt2)
  have ne45 := Aside0.mk (show g4 ≠ w2.heap.size from Nat.ne_of_lt hlt4)
  have ge5 := Aside0.mk HB'.out.size
  clear HB' H2' H4 hnb hnk d0 d7 hlt2 hlt4
  have H4 := H4'
  clear H4'
  generalize (w2.alloc (.cells Rep.z.cs 41)).setRow w2.heap.size (nextK x 0).cs = w3 at HB H2 H4 H5 ⊢
  generalize w2.heap.size = g5 at H5 ne25 ne45 ge5 ⊢
  have hi0 := fun W => row18_ix0 x.s0 x.s1 x.s2 W
  have hi1 := fun W => row18_ix1 x.s0 x.s1 x.s2 W
  have hi2 := fun W => row18_ix2 x.s0 x.s1 x.s2 W
  go_wp2_with ((with_reducible refine gate_dst (N := 27) rfl ?_); refine wpl_value rfl (load_run_at 39 (.tmp 26) rfl ⟨g4, 8, none⟩ rfl (row18 x.s0 x.s1 x.s2).toList _ (Rep.st x H4.out) Try.underlying39 rfl (by kernel_rfl)) ?_)
  refine wp_loop_rounds 4 ?_
  rw [rounds_succ]
  go_wp2_with ((with_reducible refine gate_store (t := 38) (p := 7) (v := .tmp 31) rfl ?_); refine Shut.out ?_)
  unfold Shut
  change wpList _ _ _ _ _ (w3.alloc (.cells (rw6 Row6.z) 38))
  obtain ⟨hnb, hnk⟩ := newbk w3 (rw6 Row6.z) (rw6 x.s0) 38
  refine store_rowTo rfl 38 (.tmp 7) (.tmp 31) rfl rfl w3.heap.size (rw6 x.s0) rfl rfl 38 _ (blk_new w3 _) (by kernel_rfl) rfl (rw6_all _) ?_
  have HB' := Aside0.mk (below_step HB.out hnb)
  have H2' := Aside0.mk (blk_below H2.out hnb)
  have H4' := Aside0.mk (blk_below H4.out hnb)
  have H5' := Aside0.mk (blk_below H5.out hnb)
  have H7 := Aside0.mk hnk
  clear HB H2 H4 H5 hnb hnk
  generalize (w3.alloc (.cells (rw6 Row6.z) 38)).setRow w3.heap.size (rw6 x.s0) = w4 at HB' H2' H4' H5' H7 ⊢
  generalize w3.heap.size = g70 at H7 ⊢
  have d5 : w4.cell? ⟨g70, 5, none⟩ = some (.int .i64 x.s0.c) := (blk_cell H7.out 5).trans rfl
  go_wp2_with ((with_reducible refine gate_store (t := 38) (p := 39) (v := .tmp 37) rfl ?_); refine Shut.out ?_)
  unfold Shut
  refine wpl_skip rfl rfl (store_run_mid 38 (.tmp 39) (.tmp 37) rfl g5 8 (rw6 (nrow x.s0.c)) rfl rfl 41 _ H5'.out (by kernel_rfl) (by show 8 + 6 ≤ 27; omega) (rw6_all _)) ?_
  rw [show ((nextK x 0).cs.toList.take 8 ++ (rw6 (nrow x.s0.c)).toList ++ (nextK x 0).cs.toList.drop (8 + (rw6 (nrow x.s0.c)).size)).toArray = (nextK x 1).cs from rfl]
  have HB := Aside0.mk (row_below HB'.out ge5.out (nextK x 1).cs)
  have H5 := Aside0.mk (setRow_heap w4 g5 _ (nextK x 1).cs 41 (0, 0) H5'.out)
  have H2 := Aside0.mk (show (w4.setRow g5 (nextK x 1).cs).heap[g2]? = some (.cells Rep.z.cs 41 (0, 0)) from (setRow_other w4 g5 g2 _ ne25.out).trans H2'.out)
  have H4 := Aside0.mk (show (w4.setRow g5 (nextK x 1).cs).heap[g4]? = some (.cells x.cs 41 (0, 0)) from (setRow_other w4 g5 g4 _ ne45.out).trans H4'.out)
  clear HB' H2' H4' H5' H7 d5
  generalize w4.setRow g5 (nextK x 1).cs = w5 at HB H2 H4 H5 ⊢
  go_wp2_with fail
  rw [rounds_succ]
  go_wp2_with ((with_reducible refine gate_store (t := 38) (p := 7) (v := .tmp 31) rfl ?_); refine Shut.out ?_)
  unfold Shut
  change wpList _ _ _ _ _ (w5.alloc (.cells (rw6 Row6.z) 38))
  obtain ⟨hnb, hnk⟩ := newbk w5 (rw6 Row6.z) (rw6 x.s1) 38
  refine store_rowTo rfl 38 (.tmp 7) (.tmp 31) rfl rfl w5.heap.size (rw6 x.s1) rfl rfl 38 _ (blk_new w5 _) (by kernel_rfl) rfl (rw6_all _) ?_
  have HB' := Aside0.mk (below_step HB.out hnb)
  have H2' := Aside0.mk (blk_below H2.out hnb)
  have H4' := Aside0.mk (blk_below H4.out hnb)
  have H5' := Aside0.mk (blk_below H5.out hnb)
  have H7 := Aside0.mk hnk
  clear HB H2 H4 H5 hnb hnk
  generalize (w5.alloc (.cells (rw6 Row6.z) 38)).setRow w5.heap.size (rw6 x.s1) = w6 at HB' H2' H4' H5' H7 ⊢
  generalize w5.heap.size = g71 at H7 ⊢
  have d5 : w6.cell? ⟨g71, 5, none⟩ = some (.int .i64 x.s1.c) := (blk_cell H7.out 5).trans rfl
  go_wp2_with ((with_reducible refine gate_store (t := 38) (p := 39) (v := .tmp 37) rfl ?_); refine Shut.out ?_)
  unfold Shut
  refine wpl_skip rfl rfl (store_run_mid 38 (.tmp 39) (.tmp 37) rfl g5 14 (rw6 (nrow x.s1.c)) rfl rfl 41 _ H5'.out (by kernel_rfl) (by show 14 + 6 ≤ 27; omega) (rw6_all _)) ?_
  rw [show ((nextK x 1).cs.toList.take 14 ++ (rw6 (nrow x.s1.c)).toList ++ (nextK x 1).cs.toList.drop (14 + (rw6 (nrow x.s1.c)).size)).toArray = (nextK x 2).cs from rfl]
  have HB := Aside0.mk (row_below HB'.out ge5.out (nextK x 2).cs)
  have H5 := Aside0.mk (setRow_heap w6 g5 _ (nextK x 2).cs 41 (0, 0) H5'.out)
  have H2 := Aside0.mk (show (w6.setRow g5 (nextK x 2).cs).heap[g2]? = some (.cells Rep.z.cs 41 (0, 0)) from (setRow_other w6 g5 g2 _ ne25.out).trans H2'.out)
  have H4 := Aside0.mk (show (w6.setRow g5 (nextK x 2).cs).heap[g4]? = some (.cells x.cs 41 (0, 0)) from (setRow_other w6 g5 g4 _ ne45.out).trans H4'.out)
  clear HB' H2' H4' H5' H7 d5
  generalize w6.setRow g5 (nextK x 2).cs = w7 at HB H2 H4 H5 ⊢
  go_wp2_with fail
  rw [rounds_succ]
  go_wp2_with ((with_reducible refine gate_store (t := 38) (p := 7) (v := .tmp 31) rfl ?_); refine Shut.out ?_)
  unfold Shut
  change wpList _ _ _ _ _ (w7.alloc (.cells (rw6 Row6.z) 38))
  obtain ⟨hnb, hnk⟩ := newbk w7 (rw6 Row6.z) (rw6 x.s2) 38
  refine store_rowTo rfl 38 (.tmp 7) (.tmp 31) rfl rfl w7.heap.size (rw6 x.s2) rfl rfl 38 _ (blk_new w7 _) (by kernel_rfl) rfl (rw6_all _) ?_
  have HB' := Aside0.mk (below_step HB.out hnb)
  have H2' := Aside0.mk (blk_below H2.out hnb)
  have H4' := Aside0.mk (blk_below H4.out hnb)
  have H5' := Aside0.mk (blk_below H5.out hnb)
  have H7 := Aside0.mk hnk
  clear HB H2 H4 H5 hnb hnk
  generalize (w7.alloc (.cells (rw6 Row6.z) 38)).setRow w7.heap.size (rw6 x.s2) = w8 at HB' H2' H4' H5' H7 ⊢
  generalize w7.heap.size = g72 at H7 ⊢
  have d5 : w8.cell? ⟨g72, 5, none⟩ = some (.int .i64 x.s2.c) := (blk_cell H7.out 5).trans rfl
  go_wp2_with ((with_reducible refine gate_store (t := 38) (p := 39) (v := .tmp 37) rfl ?_); refine Shut.out ?_)
  unfold Shut
  refine wpl_skip rfl rfl (store_run_mid 38 (.tmp 39) (.tmp 37) rfl g5 20 (rw6 (nrow x.s2.c)) rfl rfl 41 _ H5'.out (by kernel_rfl) (by show 20 + 6 ≤ 27; omega) (rw6_all _)) ?_
  rw [show ((nextK x 2).cs.toList.take 20 ++ (rw6 (nrow x.s2.c)).toList ++ (nextK x 2).cs.toList.drop (20 + (rw6 (nrow x.s2.c)).size)).toArray = (nextK x 3).cs from rfl]
  have HB := Aside0.mk (row_below HB'.out ge5.out (nextK x 3).cs)
  have H5 := Aside0.mk (setRow_heap w8 g5 _ (nextK x 3).cs 41 (0, 0) H5'.out)
  have H2 := Aside0.mk (show (w8.setRow g5 (nextK x 3).cs).heap[g2]? = some (.cells Rep.z.cs 41 (0, 0)) from (setRow_other w8 g5 g2 _ ne25.out).trans H2'.out)
  have H4 := Aside0.mk (show (w8.setRow g5 (nextK x 3).cs).heap[g4]? = some (.cells x.cs 41 (0, 0)) from (setRow_other w8 g5 g4 _ ne45.out).trans H4'.out)
  clear HB' H2' H4' H5' H7 d5
  generalize w8.setRow g5 (nextK x 3).cs = w9 at HB H2 H4 H5 ⊢
  go_wp2_with fail
  rw [rounds_succ]
  clear hi0 hi1 hi2
  go_wp2_with fail
  have HP := Aside0.mk (HA.out.below HB.out).hp
  have n_HB := Aside0.mk (below_step HB.out (below_drew (Below.refl _ _)))
  have n_H2 := Aside0.mk (blk_below H2.out (below_drew (Below.refl _ _)))
  have n_H4 := Aside0.mk (blk_below H4.out (below_drew (Below.refl _ _)))
  have n_H5 := Aside0.mk (blk_below H5.out (below_drew (Below.refl _ _)))
  have n_HP := Aside0.mk (blk_below HP.out (below_drew (Below.refl _ _)))
  clear HB
  have HB := n_HB
  clear n_HB
  clear H2
  have H2 := n_H2
  clear n_H2
  clear H4
  have H4 := n_H4
  clear n_H4
  clear H5
  have H5 := n_H5
  clear n_H5
  clear HP
  have HP := n_HP
  clear n_HP
  refine start_ (n := 11) (S := fun w' => w'.cell? ⟨p, 0, none⟩ = some (.slice Ap past.length cp) ∧ w'.heap[g4]? = some (.cells x.cs 41 (0, 0))) (ds := [10]) #[false, false, false, false, false, false, false, false, false, false, false] (by kernel_rfl) rfl rfl ⟨(blk_cell HP.out 0).trans rfl, H4.out⟩ (fun hHeld => ?_)
  generalize w9.drew = w10 at HB H2 H4 H5 HP hHeld ⊢
  refine pure_ (i := 0) (N := some 41) (v := ?_) (a' := ?_) #[true, false, false, false, false, false, false, false, false, false, false] rfl rfl (by kernel_rfl) (fun _ _ _ h => h) (Or.inl ⟨by rfl, ?_⟩) ?_ ?_
  rotate_left
  · intro w'
    go_simp
    with_reducible rfl
  rotate_left
  · simp only [Act.put, List.setIfInBounds_toArray, List.set_cons_zero, List.set_cons_succ, i64_w, i32_w]
    rfl
  refine pure_ (i := 1) (N := some 42) (v := ?_) (a' := ?_) #[true, true, false, false, false, false, false, false, false, false, false] rfl rfl (by kernel_rfl) (fun _ _ _ h => h) (Or.inl ⟨by rfl, ?_⟩) ?_ ?_
  rotate_left
  · intro w'
    go_simp
    with_reducible rfl
  rotate_left
  · simp only [Act.put, List.setIfInBounds_toArray, List.set_cons_zero, List.set_cons_succ, i64_w, i32_w]
    rfl
  refine pure_ (i := 2) (N := some 43) (v := ?_) (a' := ?_) #[true, true, true, false, false, false, false, false, false, false, false] rfl rfl (by kernel_rfl) (fun _ _ _ h => h) (Or.inl ⟨by rfl, ?_⟩) ?_ ?_
  rotate_left
  · intro w'
    go_simp
    with_reducible rfl
  rotate_left
  · simp only [Act.put, List.setIfInBounds_toArray, List.set_cons_zero, List.set_cons_succ, i64_w, i32_w]
    rfl
  refine pure_ (i := 3) (N := some 44) (v := ?_) (a' := ?_) #[true, true, true, true, false, false, false, false, false, false, false] rfl rfl (by kernel_rfl) (fun _ _ _ h => h) (Or.inl ⟨by rfl, ?_⟩) ?_ ?_
  rotate_left
  · intro w'
    go_simp
    with_reducible rfl
  rotate_left
  · simp only [Act.put, List.setIfInBounds_toArray, List.set_cons_zero, List.set_cons_succ, i64_w, i32_w]
    rfl
  refine take_ (i := 4) (N := some 45) (v := ?_) (a' := ?_) #[true, true, true, true, true, false, false, false, false, false, false] rfl rfl (by kernel_rfl) (fun _ _ _ h => h) (Or.inl ⟨by rfl, ?_⟩) hHeld ?_ ?_
  rotate_left
  · rintro w' ⟨s0, s1⟩
    go_simp
    with_reducible rfl
  rotate_left
  · simp only [Act.put, List.setIfInBounds_toArray, List.set_cons_zero, List.set_cons_succ, i64_w, i32_w]
    rfl
  refine take_ (i := 5) (N := some 46) (v := ?_) (a' := ?_) #[true, true, true, true, true, true, false, false, false, false, false] rfl rfl (by kernel_rfl) (fun _ _ _ h => h) (Or.inl ⟨by rfl, ?_⟩) hHeld ?_ ?_
  rotate_left
  · rintro w' ⟨s0, s1⟩
    refine load_run 41 (.tmp 4) ?_ g4 ?_ 41 _ (0, 0) _ s1 Try.underlying41 rfl (by kernel_rfl) <;> rfl
  rotate_left
  · simp only [Act.put, List.setIfInBounds_toArray, List.set_cons_zero, List.set_cons_succ, i64_w, i32_w]
    rfl
  refine one_ (i := 6) (N := some 47) #[true, true, true, true, true, true, true, false, false, false, false] rfl rfl (by kernel_rfl) (by decide) (fun K hK => ?_)
  refine slit_step (n := 1) (N := 47) ?hg ?hd (cs := x.cs) (t := 41) ?hr ?_; (case hd => rfl); (case hg => rfl); (case hr => exact bslice_run 54 1 _ #[(0, .agg x.cs)] rfl (by simp only [List.map_toArray, List.map_cons, List.map_nil]; rfl) (run_one27 x _))
  intro g47 hgg y1_ hbox hb
  have m_ := Aside0.mk hbox
  have n_HB := Aside0.mk (below_step HB.out hb)
  have n_H2 := Aside0.mk (blk_below H2.out hb)
  have n_H4 := Aside0.mk (blk_below H4.out hb)
  have n_H5 := Aside0.mk (blk_below H5.out hb)
  have n_HP := Aside0.mk (blk_below HP.out hb)
  clear HB
  have HB := n_HB
  clear n_HB
  clear H2
  have H2 := n_H2
  clear n_H2
  clear H4
  have H4 := n_H4
  clear n_H4
  clear H5
  have H5 := n_H5
  clear n_H5
  clear HP
  have HP := n_HP
  clear n_HP
  clear hb hbox hgg
  have BKg47 := m_
  clear m_
  refine hK.out _ _ ⟨(blk_cell HP.out 0).trans rfl, H4.out⟩ (fun hHeld => ?_)
  clear hK K
  refine norm_ (a' := ?_) ?_ ?_
  rotate_left
  · show Act.put _ (some 47) _ = _
    simp only [Act.put, List.setIfInBounds_toArray, List.set_cons_zero, List.set_cons_succ, i64_w, i32_w]
    rfl
  refine one_ (i := 7) (N := some 48) #[true, true, true, true, true, true, true, true, false, false, false] rfl rfl (by kernel_rfl) (by decide) (fun K hK => ?_)
  have O_HA := HA.out.below HB.out
  have O_sz := HB.out.size
  refine Kd.R_append_rows_step (Kd.raw 27) (w0 := y1_) B (by rfl) (.tmp 45) (.tmp 47) 54 41 (.agg Rep.z.cs) 216 rfl rep_und rep_info ?aZ (by decide) (by omega) (.slice Ap past.length cp) (past.map (fun r => r.cs.toList)) ([x.cs.toList]) (some ⟨g47, 0, none⟩) 1 1 (fun _ => True) (fun _ => False) rfl rfl ?aO ?aR (fun _ _ h => h) (fun _ h => h.elim) (fun _ _ => trivial) ?aB ?aS ?aL ?_
  (case aZ => rfl)
  (case aO => exact O_HA.hw)
  (case aR => exact raw_one27 x BKg47.out)
  (case aB => exact Below.refl _ _)
  (case aS => exact Nat.le_trans HA.out.hB (Nat.le_trans (Nat.le_of_lt (blk_lt HA.out.hp)) O_sz))
  (case aL => rw [List.length_map]; omega)
  intro v9 y2_ hR hb hg hat
  obtain ⟨m_p, m_c⟩ := O_HA.app hg
  have m_HM := Aside0.mk ((Mv.of_below (F := fun k => k = p ∨ (Value.slice Ap past.length cp).ownBlock = some k) HB.out).trans (Mv.grown (F' := fun k => k = p ∨ v9.ownBlock = some k) hg (fun k hk => .inr hk) (fun k hk => (by rcases hk with hk | hk; exact .inl (.inl hk); rcases hat with e | ⟨b, e, hb9⟩; exact .inl (.inr (by rw [← e]; exact hk)); exact .inr (by rw [e] at hk; cases hk; exact hb9)))))
  have m_H2 := Aside0.mk (blk_grown H2.out hg (fun e => by have := HNO.out _ e.symm; have := ge2.out; omega))
  have m_H4 := Aside0.mk (blk_grown H4.out hg (fun e => by have := HNO.out _ e.symm; have := ge4.out; omega))
  have m_H5 := Aside0.mk (blk_grown H5.out hg (fun e => by have := HNO.out _ e.symm; have := ge5.out; omega))
  rw [show past.map (fun r => r.cs.toList) ++ [x.cs.toList] = (past ++ [x]).map (fun r => r.cs.toList) from by rw [List.map_append]; rfl] at hR
  have m_N9 := Aside0.mk (show ∀ k, v9.ownBlock = some k → k ≠ g2 from fun k hk => (by have h2 := blk_lt H2.out; have := ge2.out; rcases hat with e | ⟨b, e, hb9⟩; (have := HNO.out k (by rw [← e]; exact hk)); omega; rw [e] at hk; cases hk; omega))
  have m_HP := Aside0.mk m_p
  have m_HC := Aside0.mk m_c
  have m_HW := Aside0.mk hR
  clear HB H2 H4 H5 HP BKg47 O_HA O_sz m_p m_c hR hb hg hat
  have HM := m_HM
  clear m_HM
  have H2 := m_H2
  clear m_H2
  have H4 := m_H4
  clear m_H4
  have H5 := m_H5
  clear m_H5
  have HP := m_HP
  clear m_HP
  have HC := m_HC
  clear m_HC
  have HW := m_HW
  clear m_HW
  have N9 := m_N9
  clear m_N9
  obtain ⟨A9, c9, e9⟩ := Kd.R_slice HW.out
  rw [List.length_map, List.length_append, List.length_singleton] at e9
  subst e9
  refine hK.out _ _ ⟨(blk_cell HP.out 0).trans rfl, H4.out⟩ (fun hHeld => ?_)
  clear hK K
  refine norm_ (a' := ?_) ?_ ?_
  rotate_left
  · show Act.put _ (some 48) _ = _
    simp only [Act.put, List.setIfInBounds_toArray, List.set_cons_zero, List.set_cons_succ, i64_w, i32_w]
    rfl
  refine pure_ (i := 8) (N := some 49) (v := ?_) (a' := ?_) #[true, true, true, true, true, true, true, true, true, false, false] rfl rfl (by kernel_rfl) (fun _ _ _ h => h) (Or.inl ⟨by rfl, ?_⟩) ?_ ?_
  rotate_left
  · intro w'
    go_simp
    with_reducible rfl
  rotate_left
  · simp only [Act.put, List.setIfInBounds_toArray, List.set_cons_zero, List.set_cons_succ, i64_w, i32_w]
    rfl
  refine pure_ (i := 9) (N := some 50) (v := ?_) (a' := ?_) #[true, true, true, true, true, true, true, true, true, true, false] rfl rfl (by kernel_rfl) (fun _ _ _ h => h) (Or.inl ⟨by rfl, ?_⟩) ?_ ?_
  rotate_left
  · intro w'
    go_simp
    with_reducible rfl
  rotate_left
  · simp only [Act.put, List.setIfInBounds_toArray, List.set_cons_zero, List.set_cons_succ, i64_w, i32_w]
    rfl
  refine last_ (i := 10) (N := none) #[true, true, true, true, true, true, true, true, true, true, true] rfl rfl (by kernel_rfl) (by decide) (fun K hK => ?_)
  have kf := blk_frozen HP.out 0
  have kc := (blk_cell HP.out 0).trans (show (ccells (.slice Ap past.length cp) x t cv)[0]? = some (.slice Ap past.length cp) from rfl)
  refine skip_ (w1 := ?_) (by rfl) rfl ?_ ?_
  rotate_left
  · go_simp
    rfl
  refine hK.out _ _ ?_
  clear hK K
  refine done_ (by kernel_rfl) ?_
  clear hHeld kf kc
  obtain ⟨p9, hp9⟩ : ∃ p9, p9 = Value.slice A9 (past.length + 1) c9 := ⟨_, rfl⟩
  rw [← hp9] at HM N9 HW ⊢
  clear hp9
  rw [put_step HP.out]
  rw [show (ccells (.slice Ap past.length cp) x t cv).setIfInBounds 0 p9 = ccells p9 x t cv from rfl]
  have HA2 := Aside0.mk (show CA B (y2_.setRow p (ccells p9 x t cv)) p p9 (past ++ [x]) x t cv ch from ⟨setRow_heap _ _ _ _ _ _ HP.out, R_row HW.out HP.out (by decide) _, R_row HC.out HP.out (by decide) _, HA.out.hB⟩)
  have HM2 := Aside0.mk (HM.out.trans (Mv.row (F := fun k => k = p ∨ p9.ownBlock = some k) y2_ p (.inl rfl) (ccells p9 x t cv)))
  have np : ∀ {g : Nat} {cs : Array Value}, y2_.heap[g]? = some (.cells cs 41 (0, 0)) → g ≠ p := fun h1 e => by rw [e, HP.out] at h1; injection h1 with h1; injection h1 with _ h1; exact absurd h1 (by decide)
  have H22 := Aside0.mk ((setRow_other y2_ p g2 (ccells p9 x t cv) (np H2.out)).trans H2.out)
  have H42 := Aside0.mk ((setRow_other y2_ p g4 (ccells p9 x t cv) (np H4.out)).trans H4.out)
  have H52 := Aside0.mk ((setRow_other y2_ p g5 (ccells p9 x t cv) (np H5.out)).trans H5.out)
  clear HM HW HC HP H2 H4 H5 np
  generalize y2_.setRow p (ccells p9 x t cv) = w11 at HA2 HM2 H22 H42 H52 ⊢
  go_wp2_with (first | ((with_reducible refine gate_dst (N := 54) rfl ?_); refine wpList_load_row rfl 41 (.tmp 5) rfl g5 rfl 41 _ (0, 0) _ H52.out Try.underlying41 rfl (by kernel_rfl) ?_) | ((with_reducible refine gate_store (t := 41) (p := 56) (v := .tmp 54) rfl ?_); refine Shut.out ?_))
  unfold Shut
  refine wpl_skip rfl rfl (store_run_mid 41 (.tmp 56) (.tmp 54) rfl p 1 (nextK x 3).cs rfl rfl 57 _ HA2.out.hp (by kernel_rfl) (by show 1 + 27 ≤ 30; omega) (Rep.all _)) ?_
  rw [show ((ccells p9 x t cv).toList.take 1 ++ (nextK x 3).cs.toList ++ (ccells p9 x t cv).toList.drop (1 + (nextK x 3).cs.size)).toArray = ccells p9 (nextR x) t cv from rfl]
  have HA3 := Aside0.mk (HA2.out.put_row HA2.out.hp (x2 := nextR x) (t2 := t) rfl rfl HA2.out.hc)
  have HM3 := Aside0.mk (HM2.out.trans (Mv.row (F := fun k => k = p ∨ p9.ownBlock = some k) w11 p (.inl rfl) (ccells p9 (nextR x) t cv)))
  have np : ∀ {g : Nat} {cs : Array Value}, w11.heap[g]? = some (.cells cs 41 (0, 0)) → g ≠ p := fun h1 e => by rw [e, HA2.out.hp] at h1; injection h1 with h1; injection h1 with _ h1; exact absurd h1 (by decide)
  have H23 := Aside0.mk ((setRow_other w11 p g2 (ccells p9 (nextR x) t cv) (np H22.out)).trans H22.out)
  have H43 := Aside0.mk ((setRow_other w11 p g4 (ccells p9 (nextR x) t cv) (np H42.out)).trans H42.out)
  clear HA2 HM2 H22 H42 H52 np
  generalize w11.setRow p (ccells p9 (nextR x) t cv) = w12 at HA3 HM3 H23 H43 ⊢
  obtain ⟨xn, hxn⟩ : ∃ xn, xn = nextR x := ⟨_, rfl⟩
  rw [← hxn] at HA3
  replace hxn := Aside0.mk hxn
  have c29 : w12.cell? ⟨p, 29, none⟩ = some cv := (blk_cell HA3.out.hp 29).trans rfl
  have f29 := blk_frozen HA3.out.hp 29
  have c28 : w12.cell? ⟨p, 28, none⟩ = some (.int .i64 (t : Int)) := (blk_cell HA3.out.hp 28).trans rfl
  have f28 := blk_frozen HA3.out.hp 28
  go_upto_region 12 with fail
  clear c29 f29 c28 f28
  rw [put_step HA3.out.hp]
  rw [show (ccells p9 xn t cv).setIfInBounds 29 (.slice none 0 0) = ccells p9 xn t (.slice none 0 0) from rfl]
  have HA4 := Aside0.mk (HA3.out.put_row HA3.out.hp (x2 := xn) (t2 := t) (cv2 := .slice none 0 0) (ch2 := []) rfl rfl (Kd.R_nil _ _ _ _ _))
  rw [put_step HA4.out.hp, setRow_setRow]
  rw [show (ccells p9 xn t (.slice none 0 0)).setIfInBounds 28 (.int .i64 0) = ccells p9 xn ((0 : Nat) : Int) (.slice none 0 0) from rfl]
  have HA5 := Aside0.mk (HA3.out.put_row HA3.out.hp (x2 := xn) (t2 := 0) (cv2 := .slice none 0 0) (ch2 := []) rfl rfl (Kd.R_nil _ _ _ _ _))
  have HM5 := Aside0.mk (HM3.out.trans (Mv.row (F := fun k => k = p ∨ p9.ownBlock = some k) w12 p (.inl rfl) (ccells p9 xn ((0 : Nat) : Int) (.slice none 0 0))))
  have np : ∀ {g : Nat} {cs : Array Value}, w12.heap[g]? = some (.cells cs 41 (0, 0)) → g ≠ p := fun h1 e => by rw [e, HA3.out.hp] at h1; injection h1 with h1; injection h1 with _ h1; exact absurd h1 (by decide)
  have H25 := Aside0.mk ((setRow_other w12 p g2 (ccells p9 xn ((0 : Nat) : Int) (.slice none 0 0)) (np H23.out)).trans H23.out)
  have H45 := Aside0.mk ((setRow_other w12 p g4 (ccells p9 xn ((0 : Nat) : Int) (.slice none 0 0)) (np H43.out)).trans H43.out)
  clear HA3 HA4 HM3 H23 H43 np
  generalize w12.setRow p (ccells p9 xn ((0 : Nat) : Int) (.slice none 0 0)) = w13 at HA5 HM5 H25 H45 ⊢
  go_wp2_with (first | ((with_reducible refine gate_dst (N := 61) rfl ?_); refine wpList_load_row rfl 41 (.tmp 4) rfl g4 rfl 41 _ (0, 0) _ H45.out Try.underlying41 rfl (by kernel_rfl) ?_) | ((with_reducible refine gate_store (t := 41) (p := 2) (v := .tmp 61) rfl ?_); refine store_rowTo rfl 41 (.tmp 2) (.tmp 61) rfl rfl g2 x.cs rfl rfl 41 _ H25.out (by kernel_rfl) rfl (Rep.all _) ?_))
  exact bodyPost_ret (v := .tuple #[.agg x.cs, .int .i64 0]) (results_ct Try.results8 _ _ g2 41 _ (0, 0) _ rfl (setRow_heap _ _ _ _ _ _ H25.out) Try.underlying41 rfl (by kernel_rfl)) rfl ⟨p9, rfl, (by rw [← hxn.out]; exact HA5.out.far41 H25.out N9.out x.cs), ⟨HM5.out.os, HM5.out.tape, HM5.out.output, by have := HM5.out.size; simpa [World.setRow] using this, fun k hk hF => (setRow_other w13 g2 k x.cs (by have := ge2.out; omega)).trans (HM5.out.block k hk hF), HM5.out.foot⟩⟩



end Go.Proofs.Ytpcllhhbaockfaa.Print
