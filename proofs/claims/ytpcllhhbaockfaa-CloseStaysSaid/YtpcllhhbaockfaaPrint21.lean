-- written by this session's program wip/hybrid.py over the kit's printer, and by hand. Not trusted: Lean checks it.
import Derived.Test.YtpcllhhbaockfaaPrint0
import Derived.Test.YtpcllhhbaockfaaPrint1
import Derived.Test.YtpcllhhbaockfaaPrint9
import Derived.Test.YtpcllhhbaockfaaPrint12
import Derived.Test.YtpcllhhbaockfaaPrint13
import Derived.Test.YtpcllhhbaockfaaPrint14
import Derived.Test.YtpcllhhbaockfaaPrint15
import Derived.Test.YtpcllhhbaockfaaPrint20
namespace Go.Proofs.Ytpcllhhbaockfaa.Print
open Go.RowKit Go.Proofs.YtpcllhhbaockfaaW.PrintWords Go.Proofs.YtpcllhhbaockfaaW.PrintLast Go.Proofs.YtpcllhhbaockfaaW.PrintMore
attribute [local go_sem] max2_int min2_int max_two min_two max_three min_three max_four min_four   -- for this text's walks alone
set_option linter.unusedVariables false
set_option linter.unusedSimpArgs false

/-! ### lombardlaw23_alive: function 5 -/
def rep1 : Rep := ⟨1, 0, 0, 0, 0, 0, 0, 0, Row6.z, Row6.z, Row6.z, 0⟩
def alX1 : Rep := ⟨1, 0, 1000, 0, 0, 0, 0, 1000, Row6.z, Row6.z, Row6.z, 0⟩
def alX2 : Rep := ⟨1, 0, 1000, 67, 0, 500, 0, 567, Row6.z, Row6.z, Row6.z, 0⟩
def alD1 : D6 := ⟨1000, 0, 0, 0, 0, 0⟩
def alD2 : D6 := ⟨0, 67, 0, 500, 0, 0⟩
theorem al_t1 : takeR rep1 0 [] alD1 [] = (0, alX1, 1, []) := by kernel_rfl
theorem al_t2 : takeR alX1 1 [] alD2 [] = (0, alX2, 2, []) := by kernel_rfl
theorem al_good : Good alX2 := by
  constructor
  · exact ⟨by decide, by decide⟩
  · exact ⟨by decide, by decide⟩
  · exact ⟨by decide, by decide⟩
  · exact ⟨by decide, by decide⟩
  · exact ⟨by decide, by decide⟩
  · rfl
  · kernel_rfl
  · kernel_rfl
  · kernel_rfl
  · exact ⟨⟨by decide, by decide⟩, ⟨by decide, by decide⟩, ⟨by decide, by decide⟩, ⟨by decide, by decide⟩, ⟨by decide, by decide⟩, ⟨by decide, by decide⟩⟩
  · exact ⟨⟨by decide, by decide⟩, ⟨by decide, by decide⟩, ⟨by decide, by decide⟩, ⟨by decide, by decide⟩, ⟨by decide, by decide⟩, ⟨by decide, by decide⟩⟩
  · exact ⟨⟨by decide, by decide⟩, ⟨by decide, by decide⟩, ⟨by decide, by decide⟩, ⟨by decide, by decide⟩, ⟨by decide, by decide⟩, ⟨by decide, by decide⟩⟩
  · kernel_rfl
  · exact ⟨0, 0, 0, by kernel_rfl, by kernel_rfl⟩
theorem al_eq (d : Nat) (W : World) : (Op.equalIn (d + 2) 36 (.agg (grow alX2).toList.toArray) (.agg #[.int .i64 0, .int .i64 1000, .int .i64 67, .int .i64 0, .int .i64 500, .int .i64 0, .int .i64 567])).run Try.prog W = .ok true W := by kernel_rfl
theorem close_New.calls {w : World} : Calls Try.prog 7 #[] w fun e w' => ∃ p, e = .returned (.pointer (some ⟨p, 0, none⟩)) ∧ CA w.heap.size w' p (.slice none 0 0) [] rep1 0 (.slice none 0 0) [] ∧ Below w.heap.size w w' := by
  have hb := Aside0.mk (below_alloc (Below.refl w.heap.size w) (.cells (ccells (.slice none 0 0) rep1 0 (.slice none 0 0)) 57))
  have hk := Aside0.mk (blk_new w (.cells (ccells (.slice none 0 0) rep1 0 (.slice none 0 0)) 57))
  go_enter Try.func7, Try.ntmps7
  go_wp2_with fail
  go_ret
  first | exact ⟨w.heap.size, rfl, ⟨hk.out, Kd.R_nil _ _ _ _ _, Kd.R_nil _ _ _ _ _, Nat.le_refl _⟩, hb.out⟩ | exact ⟨⟨hk.out, Kd.R_nil _ _ _ _ _, Kd.R_nil _ _ _ _ _, Nat.le_refl _⟩, hb.out⟩
theorem nil_C64 {w : World} : Kd.C k64 w none ([] : List S64).length [] := ⟨rfl, by simp, fun h => absurd h (by simp)⟩
set_option maxHeartbeats 8000000 in
set_option maxRecDepth 100000 in
theorem lombardlaw23_alive.calls {w : World} : Calls Try.prog 5 #[] w fun e w' => e = .returned (.bool true) ∧ Below w.heap.size w w' := by
  go_enter Try.func5, Try.ntmps5
  go_wp2_with fail
  refine close_New.calls.mono ?_
  rintro e w1 ⟨p, rfl, ha, hb⟩
  have HA := Aside0.mk ha
  have HB := Aside0.mk hb
  clear ha hb
  go_wp2_with fail
  change Calls Try.prog 9 #[.pointer (some ⟨p, 0, none⟩), .agg (dcs 0 0 (.slice none 0 0) alD1 (.slice none ([] : List S64).length 0))] w1 _
  refine (close_Closer_Take.calls HA.out (by simp) alD1 nil_C64 (by simp) (by simp) al_t1).mono ?_
  rintro e w2 ⟨cv1, rfl, ha, hm⟩
  have HB2 := Aside0.mk (hm.below HB.out HB.out.size (fun k hk => by rw [hk]; exact HA.out.hB))
  have HA2 := Aside0.mk ha
  clear ha hm HA HB
  go_wp2_with fail
  change Calls Try.prog 9 #[.pointer (some ⟨p, 0, none⟩), .agg (dcs 0 0 (.slice none 0 0) alD2 (.slice none ([] : List S64).length 0))] w2 _
  refine (close_Closer_Take.calls HA2.out (by simp) alD2 nil_C64 (by simp) (by simp) al_t2).mono ?_
  rintro e w3 ⟨cv2, rfl, ha, hm⟩
  have HB := Aside0.mk (hm.below HB2.out HB2.out.size (fun k hk => by rw [hk]; exact HA2.out.hB))
  have HA := Aside0.mk ha
  clear ha hm HA2 HB2
  go_wp2_with fail
  refine (close_Closer_Now.calls alX2 HA.out.hp).mono ?_
  rintro e w4 ⟨rfl, hb⟩
  have HB2 := Aside0.mk (below_step HB.out hb)
  clear hb HA HB
  go_wp2_with ((with_reducible refine gate_store (t := 41) (p := 4) (v := .tmp 17) rfl ?_); refine Shut.out ?_)
  unfold Shut
  change wpList _ _ _ _ _ (w4.alloc (.cells Rep.z.cs 41))
  obtain ⟨hnb, hnk⟩ := newbk w4 Rep.z.cs alX2.cs 41
  refine store_rowTo rfl 41 (.tmp 4) (.tmp 17) rfl rfl w4.heap.size alX2.cs rfl rfl 41 _ (blk_new w4 _) (by kernel_rfl) rfl (Rep.all _) ?_
  have HB := Aside0.mk (below_step HB2.out hnb)
  have H4 := Aside0.mk hnk
  clear HB2 hnb hnk
  generalize (w4.alloc (.cells Rep.z.cs 41)).setRow w4.heap.size alX2.cs = w5 at HB H4 ⊢
  generalize w4.heap.size = g4 at H4 ⊢
  have heq := fun d W => al_eq d W
  go_wp2_with (first | ((with_reducible refine gate_dst (N := 31) rfl ?_); refine gate_guard rfl ?_; refine wpl_value rfl (load_run_at 36 (.tmp 30) rfl ⟨g4, 1, none⟩ rfl (grow alX2).toList _ (grow_st alX2 H4.out) Try.underlying36 rfl (by kernel_rfl)) ?_) | ((with_reducible refine gate_dst (N := 36) rfl ?_); refine gate_guard rfl ?_; refine wpList_load_row rfl 41 (.tmp 4) rfl g4 rfl 41 _ (0, 0) _ H4.out Try.underlying41 rfl (by kernel_rfl) ?_))
  refine (close_Ties.calls alX2 al_good _).mono ?_
  rintro e w6 ⟨rfl, hb⟩
  have HB2 := Aside0.mk (below_step HB.out hb)
  clear hb HB H4 heq
  go_wp2_with fail
  change Calls Try.prog 9 #[.pointer none, .agg (dcs 0 0 (.slice none 0 0) ⟨0, 0, 0, 0, 0, 0⟩ (.slice none 0 0))] w6 _
  refine close_Closer_Take.nil.mono ?_
  rintro e w7 ⟨rfl, hb⟩
  have HB := Aside0.mk (below_step HB2.out hb)
  clear hb HB2
  go_wp2_with fail
  go_ret
  exact ⟨rfl, HB.out⟩


end Go.Proofs.Ytpcllhhbaockfaa.Print
