-- written by this session's program wip/hybrid.py over the kit's printer, and by hand. Not trusted: Lean checks it.
import Derived.Test.YtpcllhhbaockfaaPrint0
import Derived.Test.YtpcllhhbaockfaaPrint1
import Derived.Test.YtpcllhhbaockfaaPrint9
import Derived.Test.YtpcllhhbaockfaaPrint12
import Derived.Test.YtpcllhhbaockfaaPrint17
namespace Go.Proofs.Ytpcllhhbaockfaa.Print
open Go.RowKit Go.Proofs.YtpcllhhbaockfaaW.PrintWords Go.Proofs.YtpcllhhbaockfaaW.PrintLast Go.Proofs.YtpcllhhbaockfaaW.PrintMore
attribute [local go_sem] max2_int min2_int max_two min_two max_three min_three max_four min_four   -- for this text's walks alone
set_option linter.unusedVariables false
set_option linter.unusedSimpArgs false

/-! ### allow_Row: function 22 -/
def Rep.row (x : Rep) : Nat → Row6
  | 0 => x.s0
  | 1 => x.s1
  | _ => x.s2
theorem rows_st (x : Rep) {W : World} {g : Nat} {t : TypeId} {fr : Nat × Nat} (h : W.heap[g]? = some (.cells x.cs t fr)) {k : Nat} (hk : k < 3) : ∀ j v, (rw6 (x.row k)).toList[j]? = some v → W.cell? ((⟨g, 8 + k * 6, none⟩ : Addr).add j) = some v := by
  intro j v hj
  have hlt : j < 6 := (List.getElem?_eq_some_iff.1 hj).1
  have hadd : (⟨g, 8 + k * 6, none⟩ : Addr).add j = ⟨g, 8 + k * 6 + j, none⟩ := by
    by_cases h0 : j = 0
    · rw [h0]; rfl
    · simp [Addr.add, h0]
  rw [hadd, cell_of_row W g _ _ t fr h, ← hj]
  rcases (show k = 0 ∨ k = 1 ∨ k = 2 by omega) with rfl | rfl | rfl <;> rcases (show j = 0 ∨ j = 1 ∨ j = 2 ∨ j = 3 ∨ j = 4 ∨ j = 5 by omega) with rfl | rfl | rfl | rfl | rfl | rfl <;> rfl
theorem int_und : Try.prog.underlying 76 = some (.slice 2) := by kernel_rfl
theorem int_info : (Try.prog.info? 2).map (fun i => (i.zero, i.size, i.bytes)) = some (some (.int .i64 0), 1, 8) := by kernel_rfl
theorem ties_c23 (a : Row6) (w : World) : Calls Try.prog 23 #[.agg (rw6 a)] w fun e w' => e = .returned (.int .i64 a.i) ∧ Below w.heap.size w w' := by
  have hb := below_alloc (Below.refl w.heap.size w) (.cells (rw6 a) 38)
  have h1 : (w.alloc (.cells (rw6 a) 38)).cell? ⟨w.heap.size, 1, none⟩ = some (.int .i64 a.i) := (blk_cell (blk_new w (.cells (rw6 a) 38)) 1).trans rfl
  go_enter Try.func23, Try.ntmps23
  go_wp2_with fail
  go_ret
  exact ⟨rfl, hb⟩
theorem ties_c24 (a : Row6) (w : World) : Calls Try.prog 24 #[.agg (rw6 a)] w fun e w' => e = .returned (.int .i64 a.u) ∧ Below w.heap.size w w' := by
  have hb := below_alloc (Below.refl w.heap.size w) (.cells (rw6 a) 38)
  have h1 : (w.alloc (.cells (rw6 a) 38)).cell? ⟨w.heap.size, 2, none⟩ = some (.int .i64 a.u) := (blk_cell (blk_new w (.cells (rw6 a) 38)) 2).trans rfl
  go_enter Try.func24, Try.ntmps24
  go_wp2_with fail
  go_ret
  exact ⟨rfl, hb⟩
theorem ties_ok23 : FnOk Try.prog 23 := ⟨_, Try.func23, by kernel_rfl, by kernel_rfl⟩
theorem ties_ok24 : FnOk Try.prog 24 := ⟨_, Try.func24, by kernel_rfl, by kernel_rfl⟩
set_option maxHeartbeats 8000000 in
set_option maxRecDepth 100000 in
theorem allow_Row.total (n : Nat) (hn : FnOk Try.prog n) (f : Row6 → Int) (hf : ∀ a w, Calls Try.prog n #[.agg (rw6 a)] w fun e w' => e = .returned (.int .i64 (f a)) ∧ Below w.heap.size w w') (x : Rep) {w : World} {g : Nat} (hg : w.heap[g]? = some (.cells x.cs 41 (0, 0))) {r1 r2 : Int} (hs : money_Sum.f [f x.s0, f x.s1, f x.s2] = some (r1, r2)) :
    Calls Try.prog 22 #[.slice (some ⟨g, 8, none⟩) 3 3, .func (.func n) #[] #[]] w fun e w' => e = .returned (.tuple #[.int .i64 r1, .int .i64 r2]) ∧ Below w.heap.size w w' := by
  have HG := Aside0.mk hg
  have HF := Aside0.mk hf
  have HS := Aside0.mk hs
  clear hg hf hs
  go_enter Try.func22, Try.ntmps22
  go_wp2_with fail
  go_loopw [6, 11] (fun v u wr => ∃ k : Nat, k ≤ 3 ∧ u = .int .i64 k ∧ Aside0 (Kd.R (Kd.int .i64) 2 wr w.heap.size (fun _ => True) v ((List.range k).map (fun i => f (x.row i)))) ∧ Aside0 (Below w.heap.size w wr)) (fun _ u _ => 3 - (intOf u).toNat)
  case atStart => exact ⟨0, by omega, rfl, ⟨Kd.R_nil _ _ _ _ _⟩, ⟨Below.refl _ _⟩⟩
  case round =>
    obtain ⟨k, hk, rfl, HR, HB⟩ := hrel
    obtain ⟨Al, cl, hAl⟩ := Kd.R_slice HR.out
    rw [List.length_map, List.length_range] at hAl
    subst hAl
    by_cases hlt : k < 3
    case neg =>
      obtain rfl : k = 3 := by omega
      have hcap := (Kd.R_reads' HR.out).2.1
      have CS := Aside0.mk (money_Sum.calls Al cl [f x.s0, f x.s1, f x.s2] r1 r2 wr (Kd.R_reads' HR.out).2.2 hcap HS.out)
      go_wp2_with fail
      refine CS.out.mono ?_
      rintro e w2 ⟨rfl, hd⟩
      have HB2 := Aside0.mk (below_step HB.out hd.below)
      clear hd CS
      go_wp2_with fail
      go_ret2
      exact ⟨rfl, HB2.out⟩
    have hcell := Aside0.mk (rows_st x (blk_below HG.out HB.out) hlt)
    obtain ⟨a, ha⟩ : ∃ a, a = x.row k := ⟨_, rfl⟩
    rw [← ha] at hcell
    replace ha := Aside0.mk ha
    go_wp2_with (first | ((with_reducible refine gate_dst (N := 14) rfl ?_); refine wpl_value rfl (load_run_at 38 (.tmp 13) rfl ⟨g, 8 + k * 6, none⟩ rfl (rw6 a).toList _ hcell.out Try.underlying38 rfl (by kernel_rfl)) ?_) | ((with_reducible refine gate_store (t := 38) (p := 8) (v := .tmp 14) rfl ?_); refine Shut.out ?_))
    unfold Shut
    change wpList _ _ _ _ _ (wr.alloc (.cells (rw6 Row6.z) 38))
    obtain ⟨hnb, hnk⟩ := newbk wr (rw6 Row6.z) (rw6 a) 38
    refine store_rowTo rfl 38 (.tmp 8) (.tmp 14) rfl rfl wr.heap.size (rw6 a) rfl rfl 38 _ (blk_new wr _) (by kernel_rfl) rfl (rw6_all _) ?_
    have HB' := Aside0.mk (below_step HB.out hnb)
    have HR' := Aside0.mk (Kd.R_below HR.out hnb)
    have H8 := Aside0.mk hnk
    clear HB HR hnb hnk hcell
    generalize (wr.alloc (.cells (rw6 Row6.z) 38)).setRow wr.heap.size (rw6 a) = w3 at HB' HR' H8 ⊢
    generalize wr.heap.size = g8 at H8 ⊢
    go_wp2_with (first | ((with_reducible refine gate_dst (N := 17) rfl ?_); refine wpList_load_row rfl 38 (.tmp 8) rfl g8 rfl 38 _ (0, 0) _ H8.out Try.underlying38 rfl (by kernel_rfl) ?_) | ((with_reducible refine gate_dst (N := 18) rfl ?_); refine Shut.out ?_))
    unfold Shut
    refine wpl_callv (.tmp 16) _ _ rfl rfl n hn #[] rfl #[.agg (rw6 a)] (by first | rfl | (rw [Array.append_empty]; rfl) | (simp; done) | (simp; rfl)) ?_
    refine (HF.out a w3).mono ?_
    rintro e w4 ⟨rfl, hb⟩
    have HB := Aside0.mk (below_step HB'.out hb)
    have HR := Aside0.mk (Kd.R_below HR'.out hb)
    clear HB' HR' H8 hb
    go_wp2_with ((with_reducible refine gate_builtin (b := .append) (xs := #[.tmp 15, .tmp 19]) rfl ?_); refine Shut.out ?_)
    unfold Shut
    change wpList _ _ _ _ _ (w4.alloc (.cells [Value.int .i64 (f a)].toArray 2))
    refine Kd.R_append (w0 := w) (Kd.int .i64) w.heap.size rfl (.tmp 15) (.tmp 19) 76 2 (.int .i64 0) 8 rfl int_und int_info rfl (by show 0 < 1; omega) (by omega) (.slice Al k cl) ((List.range k).map (fun i => f (x.row i))) (f a) [Value.int .i64 (f a)] (fun _ => True) (fun _ => False) rfl rfl rfl (fun _ h => h.elim) (fun _ _ => trivial) HR.out HB.out HB.out.size (by rw [List.length_map, List.length_range]; omega) ?_
    intro v9 w9 hR hb _ _
    have HR9 := Aside0.mk hR
    have HB9 := Aside0.mk hb
    clear hR hb HR HB
    go_wp2_with fail
    go_roundw
    case rel => exact ⟨k + 1, by omega, by go_num, ⟨by rw [List.range_succ, List.map_append, List.map_singleton, ← ha.out]; exact HR9.out⟩, HB9⟩
    case measure => simp [intOf]; omega


end Go.Proofs.Ytpcllhhbaockfaa.Print
