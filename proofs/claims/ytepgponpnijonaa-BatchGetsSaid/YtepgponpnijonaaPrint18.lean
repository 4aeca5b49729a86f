-- written by this session's program wip/hybrid.py over the kit's printer, and by hand. Not trusted: Lean checks it.
import Derived.Test.YtepgponpnijonaaPrint0
import Derived.Test.YtepgponpnijonaaPrint14
import Derived.Test.YtepgponpnijonaaPrint15
import Derived.Test.YtepgponpnijonaaPrint17
namespace Go.Proofs.Ytepgponpnijonaa.Print
open Go.RowKit Go.Proofs.YtepgponpnijonaaW.PrintWords Go.Proofs.YtepgponpnijonaaW.PrintLast Go.Proofs.YtepgponpnijonaaW.PrintMore
attribute [local go_sem] max2_int min2_int max_two min_two max_three min_three max_four min_four   -- for this text's walks alone
set_option linter.unusedVariables false
set_option linter.unusedSimpArgs false

/-! ### lombardref18_Get: function 19 -/
mutual
def lombardref18_Get.j0 : Nat → List Int → Bool → Option (Int × Int × (List (S59)) × Int)
  | 0, _, _ => none
  | k + 1, x0, x22 => if x22 = true then (some (0, 0, ([] : List (S59)), 6)) else (if 10 < (x0.length : Int) then (if (x0.length : Int) < (wrap64 (15 + (wrap64 (9 * (wrap64 (rd x0 10)))))) then (some (0, 0, ([] : List (S59)), 14)) else (if (x0.length : Int) > (wrap64 (15 + (wrap64 (9 * (wrap64 (rd x0 10)))))) then (some (0, 0, ([] : List (S59)), 6)) else (if 0 ≤ (wrap64 ((x0.length : Int) - 4)) then (if (wrap64 ((x0.length : Int) - 4)) ≤ (x0.length : Int) then ((lombardref18_value.f k (x0.drop ((wrap64 ((x0.length : Int) - 4)) : Int).toNat)).bind fun t284 => ((lombardref18_Sum.f k (x0.take ((wrap64 ((x0.length : Int) - 4)) : Int).toNat)).bind fun t286 => (if t284 = (IntKind.u64.wrap (t286)) then (if 2 ≤ 6 then (if 6 ≤ (x0.length : Int) then ((lombardref18_value.f k ((x0.take 6).drop 2)).bind fun t288 => (if 6 ≤ 10 then (if 10 ≤ (x0.length : Int) then ((lombardref18_value.f k ((x0.take 10).drop 6)).bind fun t290 => (lombardref18_Get.l0 k x0 (wrap64 (rd x0 10)) 0 (wrap64 (t288)) (wrap64 (t290)) ([] : List (S59)))) else (none)) else (none))) else (none)) else (none)) else (some (0, 0, ([] : List (S59)), 7))))) else (none)) else (none)))) else (none))
def lombardref18_Get.l0 : Nat → List Int → Int → Int → Int → Int → List (S59) → Option (Int × Int × (List (S59)) × Int)
  | 0, _, _, _, _, _, _ => none
  | k + 1, x0, x4, x7, x292000, x292001, x292002 => if x7 < x4 then (if 0 ≤ (wrap64 (11 + (wrap64 (9 * x7)))) then (if (wrap64 (11 + (wrap64 (9 * x7)))) ≤ (wrap64 (20 + (wrap64 (9 * x7)))) then (if (wrap64 (20 + (wrap64 (9 * x7)))) ≤ (x0.length : Int) then (if 0 < (((x0.take ((wrap64 (20 + (wrap64 (9 * x7)))) : Int).toNat).drop ((wrap64 (11 + (wrap64 (9 * x7)))) : Int).toNat).length : Int) then (if 1 ≤ (((x0.take ((wrap64 (20 + (wrap64 (9 * x7)))) : Int).toNat).drop ((wrap64 (11 + (wrap64 (9 * x7)))) : Int).toNat).length : Int) then ((lombardref18_value.f k (((x0.take ((wrap64 (20 + (wrap64 (9 * x7)))) : Int).toNat).drop ((wrap64 (11 + (wrap64 (9 * x7)))) : Int).toNat).drop 1)).bind fun t295 => (if x292002.length < 8796093022208 then (lombardref18_Get.l0 k x0 x4 (wrap64 (x7 + 1)) x292000 x292001 (x292002 ++ [(⟨wrap64 (rd ((x0.take ((wrap64 (20 + (wrap64 (9 * x7)))) : Int).toNat).drop ((wrap64 (11 + (wrap64 (9 * x7)))) : Int).toNat) 0), wrap64 (t295)⟩ : S59)])) else (none))) else (none)) else (none)) else (none)) else (none)) else (none)) else ((lombardref18_Check.f k x292000 x292001 x292002).bind fun t299 => (if t299 = 0 then (some (x292000, x292001, x292002, 0)) else (some (0, 0, ([] : List (S59)), 6))))
end
def lombardref18_Get.f (k : Nat) (l0 : List Int) : Option (Int × Int × (List (S59)) × Int) := if (l0.length : Int) < 15 then (some (0, 0, ([] : List (S59)), 14)) else (if 0 < (l0.length : Int) then (if (rd l0 0) = 76 then (if 1 < (l0.length : Int) then (lombardref18_Get.j0 k l0 ((rd l0 1) != 66)) else (none)) else (lombardref18_Get.j0 k l0 true)) else (none))
theorem lombardref18_Get.mono_l : ∀ k, (∀ y0 y1, LeO (lombardref18_Get.j0 k y0 y1) (lombardref18_Get.j0 (k + 1) y0 y1)) ∧ (∀ y0 y1 y2 y3 y4 y5, LeO (lombardref18_Get.l0 k y0 y1 y2 y3 y4 y5) (lombardref18_Get.l0 (k + 1) y0 y1 y2 y3 y4 y5))
  | 0 => ⟨fun _ _ r h => by simp [lombardref18_Get.j0] at h, fun _ _ _ _ _ _ r h => by simp [lombardref18_Get.l0] at h⟩
  | k + 1 => by
    obtain ⟨ih0, ih1⟩ := lombardref18_Get.mono_l k
    refine ⟨?_, ?_⟩
    · intro y0 y1
      unfold lombardref18_Get.j0
      repeat' first
      | (with_reducible exact ih0 _ _)
      | (with_reducible exact ih1 _ _ _ _ _ _)
      | (with_reducible exact lombardref18_Check.mono _ _ _ _)
      | (with_reducible exact lombardref18_Sum.mono _ _)
      | (with_reducible exact lombardref18_value.mono _ _)
      | (with_reducible exact LeO.refl _)
      | (with_reducible exact LeO.none _)
      | (with_reducible refine LeO.ite ?_ ?_)
      | (with_reducible refine LeO.bind ?_ (fun _ => ?_))
      | exact ih0 _ _
      | exact ih1 _ _ _ _ _ _
      | exact lombardref18_Check.mono _ _ _ _
      | exact lombardref18_Sum.mono _ _
      | exact lombardref18_value.mono _ _
      | exact LeO.none _
      | refine LeO.ite ?_ ?_
      | refine LeO.bind ?_ (fun _ => ?_)
    · intro y0 y1 y2 y3 y4 y5
      unfold lombardref18_Get.l0
      repeat' first
      | (with_reducible exact ih0 _ _)
      | (with_reducible exact ih1 _ _ _ _ _ _)
      | (with_reducible exact lombardref18_Check.mono _ _ _ _)
      | (with_reducible exact lombardref18_Sum.mono _ _)
      | (with_reducible exact lombardref18_value.mono _ _)
      | (with_reducible exact LeO.refl _)
      | (with_reducible exact LeO.none _)
      | (with_reducible refine LeO.ite ?_ ?_)
      | (with_reducible refine LeO.bind ?_ (fun _ => ?_))
      | exact ih0 _ _
      | exact ih1 _ _ _ _ _ _
      | exact lombardref18_Check.mono _ _ _ _
      | exact lombardref18_Sum.mono _ _
      | exact lombardref18_value.mono _ _
      | exact LeO.none _
      | refine LeO.ite ?_ ?_
      | refine LeO.bind ?_ (fun _ => ?_)
theorem lombardref18_Get.mono : ∀ a0 k, LeO (lombardref18_Get.f k a0) (lombardref18_Get.f (k + 1) a0) := by
  intro a0 k
  obtain ⟨ih0, ih1⟩ := lombardref18_Get.mono_l k
  unfold lombardref18_Get.f
  repeat' first
      | (with_reducible exact ih0 _ _)
      | (with_reducible exact ih1 _ _ _ _ _ _)
      | (with_reducible exact lombardref18_Check.mono _ _ _ _)
      | (with_reducible exact lombardref18_Sum.mono _ _)
      | (with_reducible exact lombardref18_value.mono _ _)
      | (with_reducible exact LeO.refl _)
      | (with_reducible exact LeO.none _)
      | (with_reducible refine LeO.ite ?_ ?_)
      | (with_reducible refine LeO.bind ?_ (fun _ => ?_))
      | exact ih0 _ _
      | exact ih1 _ _ _ _ _ _
      | exact lombardref18_Check.mono _ _ _ _
      | exact lombardref18_Sum.mono _ _
      | exact lombardref18_value.mono _ _
      | exact LeO.none _
      | refine LeO.ite ?_ ?_
      | refine LeO.bind ?_ (fun _ => ?_)
def lombardref18_Get.T11 : Bool × List (List Nat × List Nat) := (true, [([], []), ([], []), ([0, 1], [0, 1]), ([2], [2]), ([], []), ([], []), ([4, 5], [4, 5]), ([6, 3], [6]), ([7], [7]), ([3, 8], [3, 8])])
def lombardref18_Get.B11 : List Nat := [0, 0, 3, 7, 0, 0, 48, 127, 255, 511]
theorem lombardref18_Get.tab11 : rtab .any (opsOf Try.f19 11) = lombardref18_Get.T11 := by kernel_rfl
theorem lombardref18_Get.bits11 : waitsOk lombardref18_Get.T11.2 lombardref18_Get.B11 = true := by kernel_rfl
def lombardref18_Get.T13 : Bool × List (List Nat × List Nat) := (true, [([], []), ([0], [0]), ([1], [1]), ([2], [2]), ([], []), ([4], [4]), ([5, 2], [5]), ([6], [6]), ([3, 7], [3, 7]), ([], []), ([9, 8, 6, 0, 1, 2, 3, 4, 5, 6, 7, 8, 9], [8, 9])])
def lombardref18_Get.B13 : List Nat := [0, 1, 3, 7, 0, 16, 55, 119, 255, 0, 1023]
theorem lombardref18_Get.tab13 : rtab .any (opsOf Try.f19 13) = lombardref18_Get.T13 := by kernel_rfl
theorem lombardref18_Get.bits13 : waitsOk lombardref18_Get.T13.2 lombardref18_Get.B13 = true := by kernel_rfl
def lombardref18_Get.T18 : Bool × List (List Nat × List Nat) := (true, [([], []), ([0], [0]), ([], []), ([2], [2]), ([3], [3]), ([4], [4]), ([], []), ([6], [6]), ([7], [7]), ([8], [8]), ([5, 9], [5, 9]), ([10], [10]), ([1, 11, 8], [1, 11]), ([0, 1, 2, 3, 4, 5, 6, 7, 8, 9, 10, 11, 12], []), ([13, 12, 12, 0, 1, 2, 3, 4, 5, 6, 7, 8, 9, 10, 11, 12], [12, 13])])
def lombardref18_Get.B18 : List Nat := [0, 1, 0, 4, 12, 28, 0, 64, 192, 448, 1020, 2044, 4095, 8191, 16383]
theorem lombardref18_Get.tab18 : rtab .any (opsOf Try.f19 18) = lombardref18_Get.T18 := by kernel_rfl
theorem lombardref18_Get.bits18 : waitsOk lombardref18_Get.T18.2 lombardref18_Get.B18 = true := by kernel_rfl
set_option maxHeartbeats 8000000 in
set_option maxRecDepth 100000 in
theorem lombardref18_Get.calls (k : Nat) (A0 : Option Addr) (c0 : Nat) (l0 : List Int) (r1 : Int) (r2 : Int) (r3 : List (S59)) (r4 : Int) (w : World) (hr0 : Kd.C (Kd.int .u8) w A0 l0.length l0) (hc0 : l0.length ≤ c0) (h : lombardref18_Get.f k l0 = some (r1, r2, r3, r4)) :
    Calls Try.prog 19 #[.slice A0 l0.length c0] w fun e w' => ∃ v2_ : Value, e = .returned (.tuple #[.agg #[.int .i64 r1, .int .i64 r2, v2_], .int .i64 r4]) ∧ Kd.R k59 59 w' w.heap.size (fun _ => True) v2_ r3 ∧ Below w.heap.size w w' := by
  have hu24 := Try.underlying24
  have hu59 := Try.underlying59
  have HR0 := Aside0.mk hr0
  have HC0 := Aside0.mk hc0
  clear hr0 hc0
  have HB := Aside0.mk (Below.refl w.heap.size w)
  have H : (if (l0.length : Int) < 15 then (some (0, 0, ([] : List (S59)), 14)) else (if 0 < (l0.length : Int) then (if (rd l0 0) = 76 then (if 1 < (l0.length : Int) then (lombardref18_Get.j0 k l0 ((rd l0 1) != 66)) else (none)) else (lombardref18_Get.j0 k l0 true)) else (none))) = some (r1, r2, r3, r4) := h
  clear h
  by_cases c2 : (l0.length : Int) < 15
  · rw [if_pos c2] at H
    have c2b0 : decide ((l0.length : Int) < 15) = true := decide_eq_true c2
    have c2b1 : decide (l0.length < 15) = true := decide_eq_true (by omega)
    clear c2
    simp only [Option.some.injEq, Prod.mk.injEq] at H
    obtain ⟨rfl, rfl, rfl, rfl⟩ := H
    go_enter Try.func19, Try.ntmps19
    go_wp2_with (first | ((with_reducible refine gate_dst (N := 2) rfl ?_); refine box_event ?hg (N := 2) ?hd (cs := #[.int .i64 0, .int .i64 0, .slice none 0 0]) (t := 24) ?hr ?_; (case hd => rfl); (case hg => rfl); (case hr => first | (go_simp; done) | (go_simp; rfl)); intro gb279 hg w3 hbox hb; have n0_ := Aside0.mk (below_step (by repeat (first | (with_reducible first | exact HB.out | apply below_alloc | apply pw_below_drewN | apply below_drew1) | exact HB.out)) hb); have n1_ := Aside0.mk (hbox); have n2_ := Aside0.mk ((by rw [hg]; exact (below_size (by repeat (first | (with_reducible first | exact HB.out | apply below_alloc | apply pw_below_drewN | apply below_drew1) | exact HB.out))) : w.heap.size ≤ gb279)); have n3_ := Aside0.mk ((by rw [hg]; exact (below_size (by repeat (first | (with_reducible first | exact HB.out | apply below_alloc | apply pw_below_drewN | apply below_drew1) | exact HB.out))) : w.heap.size ≤ gb279)); clear HB; have HB := n0_; have BK279 := n1_; have GW279 := n2_; have GE279 := n3_; clear n0_ n1_ n2_ n3_; clear hb hbox hg; have hcz4_0 : w3.cell? ⟨gb279, 0, none⟩ = some (.int .i64 0) := (blk_cell BK279.out 0).trans rfl; have hcz4_1 : w3.cell? ⟨gb279, 1, none⟩ = some (.int .i64 0) := (blk_cell BK279.out 1).trans rfl; have hcz4_2 : w3.cell? ⟨gb279, 2, none⟩ = some (.slice none 0 0) := (blk_cell BK279.out 2).trans rfl; have hfz4_0 := blk_frozen BK279.out 0; have hfz4_1 := blk_frozen BK279.out 1; have hfz4_2 := blk_frozen BK279.out 2))
    refine bodyPost_ret (results_ct rfl _ _ gb279 24 #[.int .i64 0, .int .i64 0, .slice none 0 0] (0, 0) _ rfl (by (with_reducible repeat (first | refine blk_drewN ?_ _ | refine blk_drew ?_ | refine blk_alloc ?_ _)); refine blk_put (cs := #[.int .i64 0, .int .i64 0, .slice none 0 0]) ?_ 2 _ rfl; (with_reducible repeat (first | refine blk_drewN ?_ _ | refine blk_drew ?_ | refine blk_alloc ?_ _)); refine blk_put (cs := #[.int .i64 0, .int .i64 0, .slice none 0 0]) ?_ 1 _ rfl; (with_reducible repeat (first | refine blk_drewN ?_ _ | refine blk_drew ?_ | refine blk_alloc ?_ _)); refine blk_put (cs := #[.int .i64 0, .int .i64 0, .slice none 0 0]) ?_ 0 _ rfl; (with_reducible repeat (first | refine blk_drewN ?_ _ | refine blk_drew ?_ | refine blk_alloc ?_ _)); exact BK279.out) Try.underlying24 rfl (by kernel_rfl)) rfl ?_
    exact ⟨_, by first | rfl | (simp [errW_none, errW_some] <;> rfl) | (simp [*, errW_none, errW_some] <;> rfl), by first | exact Kd.R_nil _ _ _ _ _ | exact Kd.N_nil _ _ _ _ _ | exact Kd.V_nil _ _ _ _ _ | exact Kd.Q_nil _ _ _ _ _ | exact Kd.S_nil _ _ _ _ _, by repeat (first | (with_reducible first | exact HB.out | apply below_alloc | apply pw_below_drewN | apply below_drew1 | refine below_set ?_ GE279.out) | exact HB.out)⟩
  · rw [if_neg c2] at H
    have c2b0 : decide ((l0.length : Int) < 15) = false := decide_eq_false c2
    have c2b1 : decide (l0.length < 15) = false := decide_eq_false (by omega)
    clear c2
    have HC5 := Aside0.mk H
    clear H
    go_enter Try.func19, Try.ntmps19
    go_upto_region 3 with (first | ((with_reducible refine gate_dst (N := 2) rfl ?_); refine box_event ?hg (N := 2) ?hd (cs := #[.int .i64 0, .int .i64 0, .slice none 0 0]) (t := 24) ?hr ?_; (case hd => rfl); (case hg => rfl); (case hr => first | (go_simp; done) | (go_simp; rfl)); intro gb279 hg w6 hbox hb; have n0_ := Aside0.mk (below_step (by repeat (first | (with_reducible first | exact HB.out | apply below_alloc | apply pw_below_drewN | apply below_drew1) | exact HB.out)) hb); have n1_ := Aside0.mk (hbox); have n2_ := Aside0.mk ((by rw [hg]; exact (below_size (by repeat (first | (with_reducible first | exact HB.out | apply below_alloc | apply pw_below_drewN | apply below_drew1) | exact HB.out))) : w.heap.size ≤ gb279)); have n3_ := Aside0.mk ((by rw [hg]; exact (below_size (by repeat (first | (with_reducible first | exact HB.out | apply below_alloc | apply pw_below_drewN | apply below_drew1) | exact HB.out))) : w.heap.size ≤ gb279)); clear HB; have HB := n0_; have BK279 := n1_; have GW279 := n2_; have GE279 := n3_; clear n0_ n1_ n2_ n3_; clear hb hbox hg))
    (try simp only [Act.put, List.setIfInBounds_toArray, List.set_cons_zero, List.set_cons_succ])
    go_cut [22] (fun v22 wc => ∃ (kq : Nat) (x22_4 : Bool), v22 = .bool x22_4 ∧ Aside0 (lombardref18_Get.j0 kq l0 x22_4 = some (r1, r2, r3, r4)) ∧ Aside0 (kq ≤ k) ∧ Aside0 (wc.heap[gb279]? = some (.cells #[.int .i64 0, .int .i64 0, (.slice none 0 0)] 24 (0, 0))) ∧ Aside0 (Below w.heap.size w wc))
    case first =>
      have H := HC5.out
      clear HC5
      by_cases c7 : 0 < (l0.length : Int)
      · rw [if_pos c7] at H
        have c7b0 : decide (0 < (l0.length : Int)) = true := decide_eq_true c7
        have c7b1 : decide (0 < l0.length) = true := decide_eq_true (by omega)
        clear c7
        (first | rw [c7b0] | (simp only [i64_w, i32_w]; rw [c7b0]) | skip)
        by_cases c8 : (rd l0 0) = 76
        · rw [if_pos c8] at H
          have c8b0 : ((rd l0 0) == 76) = true := beq_iff_eq.mpr c8
          have c8b1 : ((rd l0 0) != 76) = false := bne_eq_false_iff_eq.mpr c8
          clear c8
          by_cases c9 : 1 < (l0.length : Int)
          · rw [if_pos c9] at H
            have c9b0 : decide (1 < (l0.length : Int)) = true := decide_eq_true c9
            have c9b1 : decide (1 < l0.length) = true := decide_eq_true (by omega)
            clear c9
            have H' := Aside0.mk H
            clear H
            have p280 : 0 ≤ (0 : Int) := (by omega)
            have q280 : 0 < (l0.length : Int) := of_decide_eq_true (by first | (with_reducible assumption) | assumption)
            obtain ⟨ad280, e280, hx280_0⟩ := Kd.at_int HR0.out 0 p280 q280
            cases e280
            have qi280 : (0 < l0.length) = True := eq_true (by omega)
            (try rw [show ((0 : Int)).toNat = 0 from rfl] at hx280_0)
            (try rw [Addr.add_zero'] at hx280_0)
            replace hx280_0 := (HB.out.cell (World.block_lt_of_cell? w _ hx280_0)).trans hx280_0
            replace p280 := eq_true p280
            replace q280 := eq_true q280
            have p281 : 0 ≤ (1 : Int) := (by omega)
            have q281 : 1 < (l0.length : Int) := of_decide_eq_true (by first | (with_reducible assumption) | assumption)
            obtain ⟨ad281, e281, hx281_0⟩ := Kd.at_int HR0.out 1 p281 q281
            obtain rfl : ad280 = ad281 := (by injection e281)
            (try simp only [show (1 : Int).toNat = 1 from rfl, Nat.reduceMul, Nat.reduceEqDiff, Go.Addr.add, ↓reduceIte] at hx281_0)
            have qi281 : (1 < l0.length) = True := eq_true (by omega)
            (try rw [show ((1 : Int)).toNat = 1 from rfl] at hx281_0)
            replace hx281_0 := (HB.out.cell (World.block_lt_of_cell? w _ hx281_0)).trans hx281_0
            replace p281 := eq_true p281
            replace q281 := eq_true q281
            go_wp2
            go_meet
            case rel => exact ⟨_, (((rd l0 1) != 66)), (by first | rfl | (simp; done) | (simp [*]; done)), H', ⟨by first | omega | exact Nat.le_refl _⟩, ⟨by (with_reducible repeat (first | refine blk_drewN ?_ _ | refine blk_drew ?_ | refine blk_alloc ?_ _)); exact BK279.out⟩, ⟨by repeat (first | (with_reducible first | exact HB.out | apply below_alloc | apply pw_below_drewN | apply below_drew1 | refine below_set ?_ GE279.out) | exact HB.out)⟩⟩
          · rw [if_neg c9] at H
            exact absurd H (by simp)
        · rw [if_neg c8] at H
          have c8b0 : ((rd l0 0) == 76) = false := beq_eq_false_iff_ne.mpr c8
          have c8b1 : ((rd l0 0) != 76) = true := bne_iff_ne.mpr c8
          have H' := Aside0.mk H
          clear H
          have p280 : 0 ≤ (0 : Int) := (by omega)
          have q280 : 0 < (l0.length : Int) := of_decide_eq_true (by first | (with_reducible assumption) | assumption)
          obtain ⟨ad280, e280, hx280_0⟩ := Kd.at_int HR0.out 0 p280 q280
          cases e280
          have qi280 : (0 < l0.length) = True := eq_true (by omega)
          (try rw [show ((0 : Int)).toNat = 0 from rfl] at hx280_0)
          (try rw [Addr.add_zero'] at hx280_0)
          replace hx280_0 := (HB.out.cell (World.block_lt_of_cell? w _ hx280_0)).trans hx280_0
          replace p280 := eq_true p280
          replace q280 := eq_true q280
          go_wp2
          go_meet
          case rel => exact ⟨_, (true), (by first | rfl | (simp; done) | (simp [*]; done)), H', ⟨by first | omega | exact Nat.le_refl _⟩, ⟨by (with_reducible repeat (first | refine blk_drewN ?_ _ | refine blk_drew ?_ | refine blk_alloc ?_ _)); exact BK279.out⟩, ⟨by repeat (first | (with_reducible first | exact HB.out | apply below_alloc | apply pw_below_drewN | apply below_drew1 | refine below_set ?_ GE279.out) | exact HB.out)⟩⟩
      · rw [if_neg c7] at H
        exact absurd H (by simp)
    case rest =>
      clear HC5
      try clear c1
      try clear c2
      try clear c2b0
      try clear c2b1
      try clear p2
      try clear q2
      try clear hx2
      try clear qi2
      try clear c7
      try clear c7b0
      try clear c7b1
      try clear c8
      try clear c8b0
      try clear c8b1
      try clear c9
      try clear c9b0
      try clear c9b1
      try clear hcz4_0
      try clear hcz4_1
      try clear hcz4_2
      try clear hfz4_0
      try clear hfz4_1
      try clear hfz4_2
      try clear hx280_0
      try clear hx281_0
      try clear p280
      try clear p281
      try clear q280
      try clear q281
      obtain ⟨kq, x22_4, rfl, HA, HJ4, BK279, HB⟩ := hcut
      cases kq with
      | zero => exact absurd HA.out (by simp [lombardref18_Get.j0])
      | succ kj4 =>
        have H := HA.out
        clear HA
        simp only [lombardref18_Get.j0] at H
        by_cases c10 : x22_4 = true
        · subst c10
          have H1 : (some (0, 0, ([] : List (S59)), 6)) = some (r1, r2, r3, r4) := by rw [if_pos rfl] at H; exact H
          clear H
          have H := H1
          clear H1
          simp only [Option.some.injEq, Prod.mk.injEq] at H
          obtain ⟨rfl, rfl, rfl, rfl⟩ := H
          have hcz11_0 : wc.cell? ⟨gb279, 0, none⟩ = some (.int .i64 0) := (blk_cell BK279.out 0).trans rfl
          have hcz11_1 : wc.cell? ⟨gb279, 1, none⟩ = some (.int .i64 0) := (blk_cell BK279.out 1).trans rfl
          have hcz11_2 : wc.cell? ⟨gb279, 2, none⟩ = some (.slice none 0 0) := (blk_cell BK279.out 2).trans rfl
          have hfz11_0 := blk_frozen BK279.out 0
          have hfz11_1 := blk_frozen BK279.out 1
          have hfz11_2 := blk_frozen BK279.out 2
          go_wp2
          refine bodyPost_ret (results_ct rfl _ _ gb279 24 #[.int .i64 0, .int .i64 0, .slice none 0 0] (0, 0) _ rfl (by (with_reducible repeat (first | refine blk_drewN ?_ _ | refine blk_drew ?_ | refine blk_alloc ?_ _)); refine blk_put (cs := #[.int .i64 0, .int .i64 0, .slice none 0 0]) ?_ 2 _ rfl; (with_reducible repeat (first | refine blk_drewN ?_ _ | refine blk_drew ?_ | refine blk_alloc ?_ _)); refine blk_put (cs := #[.int .i64 0, .int .i64 0, .slice none 0 0]) ?_ 1 _ rfl; (with_reducible repeat (first | refine blk_drewN ?_ _ | refine blk_drew ?_ | refine blk_alloc ?_ _)); refine blk_put (cs := #[.int .i64 0, .int .i64 0, .slice none 0 0]) ?_ 0 _ rfl; (with_reducible repeat (first | refine blk_drewN ?_ _ | refine blk_drew ?_ | refine blk_alloc ?_ _)); exact BK279.out) Try.underlying24 rfl (by kernel_rfl)) rfl ?_
          exact ⟨_, by first | rfl | (simp [errW_none, errW_some] <;> rfl) | (simp [*, errW_none, errW_some] <;> rfl), by first | exact Kd.R_nil _ _ _ _ _ | exact Kd.N_nil _ _ _ _ _ | exact Kd.V_nil _ _ _ _ _ | exact Kd.Q_nil _ _ _ _ _ | exact Kd.S_nil _ _ _ _ _, by repeat (first | (with_reducible first | exact HB.out | apply below_alloc | apply pw_below_drewN | apply below_drew1 | refine below_set ?_ GE279.out) | exact HB.out)⟩
        · replace c10 := Bool.eq_false_iff.mpr c10
          subst c10
          have H1 : (if 10 < (l0.length : Int) then (if (l0.length : Int) < (wrap64 (15 + (wrap64 (9 * (wrap64 (rd l0 10)))))) then (some (0, 0, ([] : List (S59)), 14)) else (if (l0.length : Int) > (wrap64 (15 + (wrap64 (9 * (wrap64 (rd l0 10)))))) then (some (0, 0, ([] : List (S59)), 6)) else (if 0 ≤ (wrap64 ((l0.length : Int) - 4)) then (if (wrap64 ((l0.length : Int) - 4)) ≤ (l0.length : Int) then ((lombardref18_value.f kj4 (l0.drop ((wrap64 ((l0.length : Int) - 4)) : Int).toNat)).bind fun t284 => ((lombardref18_Sum.f kj4 (l0.take ((wrap64 ((l0.length : Int) - 4)) : Int).toNat)).bind fun t286 => (if t284 = (IntKind.u64.wrap (t286)) then (if 2 ≤ 6 then (if 6 ≤ (l0.length : Int) then ((lombardref18_value.f kj4 ((l0.take 6).drop 2)).bind fun t288 => (if 6 ≤ 10 then (if 10 ≤ (l0.length : Int) then ((lombardref18_value.f kj4 ((l0.take 10).drop 6)).bind fun t290 => (lombardref18_Get.l0 kj4 l0 (wrap64 (rd l0 10)) 0 (wrap64 (t288)) (wrap64 (t290)) ([] : List (S59)))) else (none)) else (none))) else (none)) else (none)) else (some (0, 0, ([] : List (S59)), 7))))) else (none)) else (none)))) else (none)) = some (r1, r2, r3, r4) := by rw [if_neg (show ¬ (false = true) by decide)] at H; exact H
          clear H
          have H := H1
          clear H1
          by_cases c12 : 10 < (l0.length : Int)
          · rw [if_pos c12] at H
            have c12b0 : decide (10 < (l0.length : Int)) = true := decide_eq_true c12
            have c12b1 : decide (10 < l0.length) = true := decide_eq_true (by omega)
            clear c12
            by_cases c13 : (l0.length : Int) < (wrap64 (15 + (wrap64 (9 * (wrap64 (rd l0 10))))))
            · rw [if_pos c13] at H
              have c13b0 : decide ((l0.length : Int) < (wrap64 (15 + (wrap64 (9 * (wrap64 (rd l0 10))))))) = true := decide_eq_true c13
              clear c13
              simp only [Option.some.injEq, Prod.mk.injEq] at H
              obtain ⟨rfl, rfl, rfl, rfl⟩ := H
              have p282 : 0 ≤ (10 : Int) := (by omega)
              have q282 : 10 < (l0.length : Int) := of_decide_eq_true (by first | (with_reducible assumption) | assumption)
              obtain ⟨ad282, e282, hx282_0⟩ := Kd.at_int HR0.out 10 p282 q282
              cases e282
              (try simp only [show (10 : Int).toNat = 10 from rfl, Nat.reduceMul, Nat.reduceEqDiff, Go.Addr.add, ↓reduceIte] at hx282_0)
              have qi282 : (10 < l0.length) = True := eq_true (by omega)
              (try rw [show ((10 : Int)).toNat = 10 from rfl] at hx282_0)
              replace hx282_0 := (HB.out.cell (World.block_lt_of_cell? w _ hx282_0)).trans hx282_0
              replace p282 := eq_true p282
              replace q282 := eq_true q282
              have hcz14_0 : wc.cell? ⟨gb279, 0, none⟩ = some (.int .i64 0) := (blk_cell BK279.out 0).trans rfl
              have hcz14_1 : wc.cell? ⟨gb279, 1, none⟩ = some (.int .i64 0) := (blk_cell BK279.out 1).trans rfl
              have hcz14_2 : wc.cell? ⟨gb279, 2, none⟩ = some (.slice none 0 0) := (blk_cell BK279.out 2).trans rfl
              have hfz14_0 := blk_frozen BK279.out 0
              have hfz14_1 := blk_frozen BK279.out 1
              have hfz14_2 := blk_frozen BK279.out 2
              go_wp2
              refine bodyPost_ret (results_ct rfl _ _ gb279 24 #[.int .i64 0, .int .i64 0, .slice none 0 0] (0, 0) _ rfl (by (with_reducible repeat (first | refine blk_drewN ?_ _ | refine blk_drew ?_ | refine blk_alloc ?_ _)); refine blk_put (cs := #[.int .i64 0, .int .i64 0, .slice none 0 0]) ?_ 2 _ rfl; (with_reducible repeat (first | refine blk_drewN ?_ _ | refine blk_drew ?_ | refine blk_alloc ?_ _)); refine blk_put (cs := #[.int .i64 0, .int .i64 0, .slice none 0 0]) ?_ 1 _ rfl; (with_reducible repeat (first | refine blk_drewN ?_ _ | refine blk_drew ?_ | refine blk_alloc ?_ _)); refine blk_put (cs := #[.int .i64 0, .int .i64 0, .slice none 0 0]) ?_ 0 _ rfl; (with_reducible repeat (first | refine blk_drewN ?_ _ | refine blk_drew ?_ | refine blk_alloc ?_ _)); exact BK279.out) Try.underlying24 rfl (by kernel_rfl)) rfl ?_
              exact ⟨_, by first | rfl | (simp [errW_none, errW_some] <;> rfl) | (simp [*, errW_none, errW_some] <;> rfl), by first | exact Kd.R_nil _ _ _ _ _ | exact Kd.N_nil _ _ _ _ _ | exact Kd.V_nil _ _ _ _ _ | exact Kd.Q_nil _ _ _ _ _ | exact Kd.S_nil _ _ _ _ _, by repeat (first | (with_reducible first | exact HB.out | apply below_alloc | apply pw_below_drewN | apply below_drew1 | refine below_set ?_ GE279.out) | exact HB.out)⟩
            · rw [if_neg c13] at H
              have c13b0 : decide ((l0.length : Int) < (wrap64 (15 + (wrap64 (9 * (wrap64 (rd l0 10))))))) = false := decide_eq_false c13
              clear c13
              by_cases c15 : (l0.length : Int) > (wrap64 (15 + (wrap64 (9 * (wrap64 (rd l0 10))))))
              · rw [if_pos c15] at H
                have c15b0 : decide ((wrap64 (15 + (wrap64 (9 * (wrap64 (rd l0 10)))))) < (l0.length : Int)) = true := decide_eq_true c15
                clear c15
                simp only [Option.some.injEq, Prod.mk.injEq] at H
                obtain ⟨rfl, rfl, rfl, rfl⟩ := H
                have p282 : 0 ≤ (10 : Int) := (by omega)
                have q282 : 10 < (l0.length : Int) := of_decide_eq_true (by first | (with_reducible assumption) | assumption)
                obtain ⟨ad282, e282, hx282_0⟩ := Kd.at_int HR0.out 10 p282 q282
                cases e282
                (try simp only [show (10 : Int).toNat = 10 from rfl, Nat.reduceMul, Nat.reduceEqDiff, Go.Addr.add, ↓reduceIte] at hx282_0)
                have qi282 : (10 < l0.length) = True := eq_true (by omega)
                (try rw [show ((10 : Int)).toNat = 10 from rfl] at hx282_0)
                replace hx282_0 := (HB.out.cell (World.block_lt_of_cell? w _ hx282_0)).trans hx282_0
                replace p282 := eq_true p282
                replace q282 := eq_true q282
                have hcz16_0 : wc.cell? ⟨gb279, 0, none⟩ = some (.int .i64 0) := (blk_cell BK279.out 0).trans rfl
                have hcz16_1 : wc.cell? ⟨gb279, 1, none⟩ = some (.int .i64 0) := (blk_cell BK279.out 1).trans rfl
                have hcz16_2 : wc.cell? ⟨gb279, 2, none⟩ = some (.slice none 0 0) := (blk_cell BK279.out 2).trans rfl
                have hfz16_0 := blk_frozen BK279.out 0
                have hfz16_1 := blk_frozen BK279.out 1
                have hfz16_2 := blk_frozen BK279.out 2
                go_wp2
                refine bodyPost_ret (results_ct rfl _ _ gb279 24 #[.int .i64 0, .int .i64 0, .slice none 0 0] (0, 0) _ rfl (by (with_reducible repeat (first | refine blk_drewN ?_ _ | refine blk_drew ?_ | refine blk_alloc ?_ _)); refine blk_put (cs := #[.int .i64 0, .int .i64 0, .slice none 0 0]) ?_ 2 _ rfl; (with_reducible repeat (first | refine blk_drewN ?_ _ | refine blk_drew ?_ | refine blk_alloc ?_ _)); refine blk_put (cs := #[.int .i64 0, .int .i64 0, .slice none 0 0]) ?_ 1 _ rfl; (with_reducible repeat (first | refine blk_drewN ?_ _ | refine blk_drew ?_ | refine blk_alloc ?_ _)); refine blk_put (cs := #[.int .i64 0, .int .i64 0, .slice none 0 0]) ?_ 0 _ rfl; (with_reducible repeat (first | refine blk_drewN ?_ _ | refine blk_drew ?_ | refine blk_alloc ?_ _)); exact BK279.out) Try.underlying24 rfl (by kernel_rfl)) rfl ?_
                exact ⟨_, by first | rfl | (simp [errW_none, errW_some] <;> rfl) | (simp [*, errW_none, errW_some] <;> rfl), by first | exact Kd.R_nil _ _ _ _ _ | exact Kd.N_nil _ _ _ _ _ | exact Kd.V_nil _ _ _ _ _ | exact Kd.Q_nil _ _ _ _ _ | exact Kd.S_nil _ _ _ _ _, by repeat (first | (with_reducible first | exact HB.out | apply below_alloc | apply pw_below_drewN | apply below_drew1 | refine below_set ?_ GE279.out) | exact HB.out)⟩
              · rw [if_neg c15] at H
                have c15b0 : decide ((wrap64 (15 + (wrap64 (9 * (wrap64 (rd l0 10)))))) < (l0.length : Int)) = false := decide_eq_false c15
                clear c15
                obtain ⟨ji17, hji17⟩ : ∃ j_ : Int, (wrap64 ((l0.length : Int) - 4)) = j_ := ⟨_, rfl⟩
                replace H : (if 0 ≤ (ji17) then (if (ji17) ≤ (l0.length : Int) then ((lombardref18_value.f kj4 (l0.drop ((ji17) : Int).toNat)).bind fun t284 => ((lombardref18_Sum.f kj4 (l0.take ((ji17) : Int).toNat)).bind fun t286 => (if t284 = (IntKind.u64.wrap (t286)) then (if 2 ≤ 6 then (if 6 ≤ (l0.length : Int) then ((lombardref18_value.f kj4 ((l0.take 6).drop 2)).bind fun t288 => (if 6 ≤ 10 then (if 10 ≤ (l0.length : Int) then ((lombardref18_value.f kj4 ((l0.take 10).drop 6)).bind fun t290 => (lombardref18_Get.l0 kj4 l0 (wrap64 (rd l0 10)) 0 (wrap64 (t288)) (wrap64 (t290)) ([] : List (S59)))) else (none)) else (none))) else (none)) else (none)) else (some (0, 0, ([] : List (S59)), 7))))) else (none)) else (none)) = some (r1, r2, r3, r4) := by first | (rw [hji17] at H; exact H) | (simp only [hji17] at H ⊢; exact H)
                have hji17w : (IntKind.i64.wrap ((l0.length : Int) - 4)) = ji17 := (i64_w _).trans hji17
                by_cases c18 : 0 ≤ (ji17)
                · rw [if_pos c18] at H
                  have c18b0 := eq_true c18
                  have c18b1 : decide (0 ≤ (ji17)) = true := decide_eq_true c18
                  clear c18
                  by_cases c19 : (ji17) ≤ (l0.length : Int)
                  · rw [if_pos c19] at H
                    have c19b0 := eq_true c19
                    have c19b1 : decide ((ji17) ≤ (l0.length : Int)) = true := decide_eq_true c19
                    clear c19
                    replace H := Option.bind_eq_some_iff.mp H
                    obtain ⟨t284, A200, H⟩ := H
                    replace H : ((lombardref18_Sum.f kj4 (l0.take ((ji17) : Int).toNat)).bind fun t286 => (if t284 = (IntKind.u64.wrap (t286)) then (if 2 ≤ 6 then (if 6 ≤ (l0.length : Int) then ((lombardref18_value.f kj4 ((l0.take 6).drop 2)).bind fun t288 => (if 6 ≤ 10 then (if 10 ≤ (l0.length : Int) then ((lombardref18_value.f kj4 ((l0.take 10).drop 6)).bind fun t290 => (lombardref18_Get.l0 kj4 l0 (wrap64 (rd l0 10)) 0 (wrap64 (t288)) (wrap64 (t290)) ([] : List (S59)))) else (none)) else (none))) else (none)) else (none)) else (some (0, 0, ([] : List (S59)), 7)))) = some (r1, r2, r3, r4) := H
                    have A20 := Aside0.mk A200
                    clear A200
                    have c21b0 := eq_true (of_decide_eq_true (by first | (with_reducible assumption) | assumption) : 0 ≤ (ji17))
                    have c22b0 := eq_true (of_decide_eq_true (by first | (with_reducible assumption) | assumption) : (ji17) ≤ (l0.length : Int))
                    replace H := Option.bind_eq_some_iff.mp H
                    obtain ⟨t286, A230, H⟩ := H
                    replace H : (if t284 = (IntKind.u64.wrap (t286)) then (if 2 ≤ 6 then (if 6 ≤ (l0.length : Int) then ((lombardref18_value.f kj4 ((l0.take 6).drop 2)).bind fun t288 => (if 6 ≤ 10 then (if 10 ≤ (l0.length : Int) then ((lombardref18_value.f kj4 ((l0.take 10).drop 6)).bind fun t290 => (lombardref18_Get.l0 kj4 l0 (wrap64 (rd l0 10)) 0 (wrap64 (t288)) (wrap64 (t290)) ([] : List (S59)))) else (none)) else (none))) else (none)) else (none)) else (some (0, 0, ([] : List (S59)), 7))) = some (r1, r2, r3, r4) := H
                    have A23 := Aside0.mk A230
                    clear A230
                    by_cases c24 : t284 = (IntKind.u64.wrap (t286))
                    · rw [if_pos c24] at H
                      have c24b0 : (t284 == (IntKind.u64.wrap (t286))) = true := beq_iff_eq.mpr c24
                      have c24b1 : (t284 != (IntKind.u64.wrap (t286))) = false := bne_eq_false_iff_eq.mpr c24
                      clear c24
                      by_cases c25 : 2 ≤ 6
                      · rw [if_pos c25] at H
                        have c25b0 := eq_true c25
                        have c25b1 : decide (2 ≤ 6) = true := decide_eq_true c25
                        clear c25
                        by_cases c26 : 6 ≤ (l0.length : Int)
                        · rw [if_pos c26] at H
                          have c26b0 := eq_true c26
                          have c26b1 : decide (6 ≤ (l0.length : Int)) = true := decide_eq_true c26
                          clear c26
                          replace H := Option.bind_eq_some_iff.mp H
                          obtain ⟨t288, A270, H⟩ := H
                          replace H : (if 6 ≤ 10 then (if 10 ≤ (l0.length : Int) then ((lombardref18_value.f kj4 ((l0.take 10).drop 6)).bind fun t290 => (lombardref18_Get.l0 kj4 l0 (wrap64 (rd l0 10)) 0 (wrap64 (t288)) (wrap64 (t290)) ([] : List (S59)))) else (none)) else (none)) = some (r1, r2, r3, r4) := H
                          have A27 := Aside0.mk A270
                          clear A270
                          by_cases c28 : 6 ≤ 10
                          · rw [if_pos c28] at H
                            have c28b0 := eq_true c28
                            have c28b1 : decide (6 ≤ 10) = true := decide_eq_true c28
                            clear c28
                            by_cases c29 : 10 ≤ (l0.length : Int)
                            · rw [if_pos c29] at H
                              have c29b0 := eq_true c29
                              have c29b1 : decide (10 ≤ (l0.length : Int)) = true := decide_eq_true c29
                              clear c29
                              replace H := Option.bind_eq_some_iff.mp H
                              obtain ⟨t290, A300, H⟩ := H
                              replace H : (lombardref18_Get.l0 kj4 l0 (wrap64 (rd l0 10)) 0 (wrap64 (t288)) (wrap64 (t290)) ([] : List (S59))) = some (r1, r2, r3, r4) := H
                              have A30 := Aside0.mk A300
                              clear A300
                              have H' := Aside0.mk H
                              clear H
                              have p282 : 0 ≤ (10 : Int) := (by omega)
                              have q282 : 10 < (l0.length : Int) := of_decide_eq_true (by first | (with_reducible assumption) | assumption)
                              obtain ⟨ad282, e282, hx282_0⟩ := Kd.at_int HR0.out 10 p282 q282
                              cases e282
                              (try simp only [show (10 : Int).toNat = 10 from rfl, Nat.reduceMul, Nat.reduceEqDiff, Go.Addr.add, ↓reduceIte] at hx282_0)
                              have qi282 : (10 < l0.length) = True := eq_true (by omega)
                              (try rw [show ((10 : Int)).toNat = 10 from rfl] at hx282_0)
                              replace hx282_0 := (HB.out.cell (World.block_lt_of_cell? w _ hx282_0)).trans hx282_0
                              replace p282 := eq_true p282
                              replace q282 := eq_true q282
                              try go_wp2
                              have n0_ := Aside0.mk (blk_drew BK279.out)
                              have n1_ := Aside0.mk (below_drew1 HB.out)
                              clear BK279
                              clear HB
                              have BK279 := n0_
                              have HB := n1_
                              clear n0_ n1_
                              obtain ⟨i032, hi032, _, hsz32, _⟩ := info_parts info5
                              obtain ⟨A32, hcut32, hA32, hC32⟩ := print_drop_of (P := Try.prog) (Value.int .u8) 0 25 5 .i64 Try.underlying25 hi032 hsz32 (some ad282) c0 l0 (ji17) (of_decide_eq_true (by first | (with_reducible assumption) | assumption)) (of_decide_eq_true (by first | (with_reducible assumption) | assumption)) HC0.out
                              have HR283 := Aside0.mk (Kd.C_of_reads (h1 := fun _ => rfl) (hA32 _ (Kd.reads_of_C HR0.out)))
                              have HC283 := Aside0.mk hC32
                              clear hA32 hC32 hi032 hsz32
                              obtain ⟨i033, hi033, _, hsz33, _⟩ := info_parts info5
                              obtain ⟨hcut33, hA33, hC33⟩ := print_take_of (P := Try.prog) (Value.int .u8) 0 25 5 .i64 Try.underlying25 hi033 hsz33 (some ad282) c0 l0 (ji17) (of_decide_eq_true (by first | (with_reducible assumption) | assumption)) (of_decide_eq_true (by first | (with_reducible assumption) | assumption)) HC0.out
                              have HR285 := Aside0.mk (Kd.C_of_reads (h1 := fun _ => rfl) (hA33 _ (Kd.reads_of_C HR0.out)))
                              have HC285 := Aside0.mk hC33
                              clear hA33 hC33 hi033 hsz33
                              refine start_ (n := 10) (S := fun w' => True) (ds := []) #[false, false, false, false, false, false, false, false, false, false] (by kernel_rfl) rfl rfl trivial (fun hHeld => ?_); refine with_tabW lombardref18_Get.tab11 lombardref18_Get.bits11 (fun HT_ HW_ => ?_)
                              generalize wc.drew = w31 at BK279 HB HR283 HR285 hHeld ⊢
                              refine pure_ (i := 0) (N := some 45) (v := ?_) (a' := ?_) #[true, false, false, false, false, false, false, false, false, false] rfl rfl (any_of HT_.out (by kernel_rfl)) (fun _ _ _ h => h) (Or.inl ⟨by rfl, ?_⟩) ?_ ?_
                              rotate_left
                              · intro w'
                                go_simp
                                with_reducible rfl
                              rotate_left
                              · simp only [Act.put, List.setIfInBounds_toArray, List.set_cons_zero, List.set_cons_succ, i64_w, i32_w]
                                rfl
                              refine pure_ (i := 1) (N := some 46) (v := ?_) (a' := ?_) #[true, true, false, false, false, false, false, false, false, false] rfl rfl (any_of HT_.out (by kernel_rfl)) (fun _ _ _ h => h) (Or.inl ⟨by rfl, ?_⟩) ?_ ?_
                              rotate_left
                              · intro w'
                                go_simp
                                with_reducible rfl
                              rotate_left
                              · simp only [Act.put, List.setIfInBounds_toArray, List.set_cons_zero, List.set_cons_succ, i64_w, i32_w]
                                rfl
                              refine pure_ (i := 2) (N := some 47) (v := ?_) (a' := ?_) #[true, true, true, false, false, false, false, false, false, false] rfl rfl (any_of HT_.out (by kernel_rfl)) (fun _ _ _ h => h) (Or.inl ⟨by rfl, ?_⟩) ?_ ?_
                              rotate_left
                              · intro w'
                                go_simp
                                with_reducible rfl
                              rotate_left
                              · simp only [Act.put, List.setIfInBounds_toArray, List.set_cons_zero, List.set_cons_succ, i64_w, i32_w]
                                rfl
                              refine pure_ (i := 4) (N := some 49) (v := ?_) (a' := ?_) #[true, true, true, false, true, false, false, false, false, false] rfl rfl (any_of HT_.out (by kernel_rfl)) (fun _ _ _ h => h) (Or.inl ⟨by rfl, ?_⟩) ?_ ?_
                              rotate_left
                              · intro w'
                                go_simp
                                with_reducible rfl
                              rotate_left
                              · simp only [Act.put, List.setIfInBounds_toArray, List.set_cons_zero, List.set_cons_succ, i64_w, i32_w]
                                rfl
                              refine pure_ (i := 5) (N := some 50) (v := ?_) (a' := ?_) #[true, true, true, false, true, true, false, false, false, false] rfl rfl (any_of HT_.out (by kernel_rfl)) (fun _ _ _ h => h) (Or.inl ⟨by rfl, ?_⟩) ?_ ?_
                              rotate_left
                              · intro w'
                                go_simp
                                with_reducible rfl
                              rotate_left
                              · simp only [Act.put, List.setIfInBounds_toArray, List.set_cons_zero, List.set_cons_succ, i64_w, i32_w]
                                rfl
                              refine pure_ (i := 6) (N := some 51) (v := ?_) (a' := ?_) #[true, true, true, false, true, true, true, false, false, false] rfl rfl (any_of HT_.out (by kernel_rfl)) (fun _ _ _ h => h) (Or.inl ⟨by rfl, ?_⟩) ?_ ?_
                              rotate_left
                              · intro w'
                                go_simp
                                with_reducible rfl
                              rotate_left
                              · simp only [Act.put, List.setIfInBounds_toArray, List.set_cons_zero, List.set_cons_succ, i64_w, i32_w]
                                rfl
                              refine one_ (i := 3) (N := some 48) #[true, true, true, true, true, true, true, false, false, false] rfl rfl (one_of HT_.out (by kernel_rfl)) (by decide) (fun K hK => ?_)
                              refine goes_ Try.func33 (by kernel_rfl) rfl #[.slice A32 (l0.drop ((ji17) : Int).toNat).length (c0 - (ji17).toNat)] (by rfl) rfl rfl (by (try simp only [List.map_toArray, List.map_cons, List.map_nil]); first | done | (rw [show (l0.drop ((ji17) : Int).toNat).length = (l0.length - (ji17).toNat) from List.length_drop] <;> rfl) | (simp only [hji17]; rfl) | rfl | (simp only [List.length_drop, List.length_take]; rfl)) ?_
                              with_reducible refine (lombardref18_value.calls kj4 _ _ (l0.drop ((ji17) : Int).toNat) t284 _ ?side1 ?side2 A20.out).mono ?_
                              (case side1 => repeat (first | exact (Kd.C_below HR283.out HB.out) | (with_reducible refine Kd.C_alloc ?_ _) | (with_reducible refine Kd.C_drewN ?_ _) | (with_reducible refine Kd.C_drew ?_)))
                              (case side2 => exact HC283.out)
                              rintro e w' ⟨rfl, ⟨nd, rfl⟩⟩
                              refine ⟨_, rfl, ?_⟩
                              refine hK.out _ _ trivial (fun hHeld => ?_)
                              clear hK K
                              refine norm_ (a' := ?_) ?_ ?_
                              rotate_left
                              · show Act.put _ (some 48) _ = _
                                simp only [Act.put, List.setIfInBounds_toArray, List.set_cons_zero, List.set_cons_succ, i64_w, i32_w]
                                rfl
                              refine one_ (i := 7) (N := some 52) #[true, true, true, true, true, true, true, true, false, false] rfl rfl (one_of HT_.out (by kernel_rfl)) (by decide) (fun K hK => ?_)
                              refine goes_ Try.func17 (by kernel_rfl) rfl #[.slice (some ad282) (l0.take ((ji17) : Int).toNat).length c0] (by rfl) rfl rfl (by (try simp only [List.map_toArray, List.map_cons, List.map_nil]); first | done | (rw [show (l0.take ((ji17) : Int).toNat).length = (ji17).toNat from (by rw [List.length_take]; have h_ : ((ji17) : Int) ≤ (l0.length : Int) := of_decide_eq_true (by first | (with_reducible assumption) | assumption); omega)] <;> rfl) | (simp only [hji17]; rfl) | rfl | (simp only [List.length_drop, List.length_take]; rfl)) ?_
                              with_reducible refine (lombardref18_Sum.calls kj4 _ _ (l0.take ((ji17) : Int).toNat) t286 _ ?side1 ?side2 A23.out).mono ?_
                              (case side1 => repeat (first | exact (Kd.C_below HR285.out (by repeat (first | (with_reducible first | exact HB.out | apply below_alloc | apply pw_below_drewN | apply below_drew1 | refine below_set ?_ GE279.out) | exact HB.out))) | (with_reducible refine Kd.C_alloc ?_ _) | (with_reducible refine Kd.C_drewN ?_ _) | (with_reducible refine Kd.C_drew ?_)))
                              (case side2 => exact HC285.out)
                              rintro e w' ⟨rfl, ⟨nd, rfl⟩⟩
                              refine ⟨_, rfl, ?_⟩
                              refine hK.out _ _ trivial (fun hHeld => ?_)
                              clear hK K
                              refine norm_ (a' := ?_) ?_ ?_
                              rotate_left
                              · show Act.put _ (some 52) _ = _
                                simp only [Act.put, List.setIfInBounds_toArray, List.set_cons_zero, List.set_cons_succ, i64_w, i32_w]
                                rfl
                              refine pure_ (i := 8) (N := some 53) (v := ?_) (a' := ?_) #[true, true, true, true, true, true, true, true, true, false] rfl rfl (any_of HT_.out (by kernel_rfl)) (fun _ _ _ h => h) (Or.inl ⟨by rfl, ?_⟩) ?_ ?_
                              rotate_left
                              · intro w'
                                go_simp
                                with_reducible rfl
                              rotate_left
                              · simp only [Act.put, List.setIfInBounds_toArray, List.set_cons_zero, List.set_cons_succ, i64_w, i32_w]
                                rfl
                              refine pure_ (i := 9) (N := some 54) (v := ?_) (a' := ?_) #[true, true, true, true, true, true, true, true, true, true] rfl rfl (any_of HT_.out (by kernel_rfl)) (fun _ _ _ h => h) (Or.inl ⟨by rfl, ?_⟩) ?_ ?_
                              rotate_left
                              · intro w'
                                go_simp
                                with_reducible rfl
                              rotate_left
                              · simp only [Act.put, List.setIfInBounds_toArray, List.set_cons_zero, List.set_cons_succ, i64_w, i32_w]
                                rfl
                              refine done_ (done_of HT_.out (by kernel_rfl)) ?_
                              try go_wp2
                              (try ((first | rw [World.drewN_drewN] | rw [drewN_self w31]); generalize hq_ : World.drewN w31 _ = w31; have n0_ : Aside0 (w31.heap[gb279]? = some (.cells #[.int .i64 0, .int .i64 0, .slice none 0 0] 24 (0, 0))) := ⟨by rw [← hq_]; exact (by (with_reducible repeat (first | refine blk_drewN ?_ _ | refine blk_drew ?_ | refine blk_alloc ?_ _)); exact BK279.out)⟩; have n1_ : Aside0 (Below w.heap.size w w31) := ⟨by rw [← hq_]; exact (by repeat (first | (with_reducible first | exact HB.out | apply below_alloc | apply pw_below_drewN | apply below_drew1 | refine below_set ?_ GE279.out) | exact HB.out))⟩; clear BK279 HB hq_; have BK279 := n0_; have HB := n1_; clear n0_ n1_))
                              have n0_ := Aside0.mk (blk_drew BK279.out)
                              have n1_ := Aside0.mk (below_drew1 HB.out)
                              clear BK279
                              clear HB
                              have BK279 := n0_
                              have HB := n1_
                              clear n0_ n1_
                              obtain ⟨i035, hi035, _, hsz35, _⟩ := info_parts info5
                              obtain ⟨A35, hcut35, hA35, hC35⟩ := print_mid_of (P := Try.prog) (Value.int .u8) 0 25 5 .i64 .i64 Try.underlying25 hi035 hsz35 (some ad282) c0 l0 2 6 (by omega) (by first | omega | exact of_decide_eq_true (by first | (with_reducible assumption) | assumption)) (of_decide_eq_true (by first | (with_reducible assumption) | assumption)) HC0.out
                              have HR287 := Aside0.mk (Kd.C_of_reads (h1 := fun _ => rfl) (hA35 _ (Kd.reads_of_C HR0.out)))
                              have HC287 := Aside0.mk hC35
                              clear hA35 hC35 hi035 hsz35
                              obtain ⟨i036, hi036, _, hsz36, _⟩ := info_parts info5
                              obtain ⟨A36, hcut36, hA36, hC36⟩ := print_mid_of (P := Try.prog) (Value.int .u8) 0 25 5 .i64 .i64 Try.underlying25 hi036 hsz36 (some ad282) c0 l0 6 10 (by omega) (by first | omega | exact of_decide_eq_true (by first | (with_reducible assumption) | assumption)) (of_decide_eq_true (by first | (with_reducible assumption) | assumption)) HC0.out
                              have HR289 := Aside0.mk (Kd.C_of_reads (h1 := fun _ => rfl) (hA36 _ (Kd.reads_of_C HR0.out)))
                              have HC289 := Aside0.mk hC36
                              clear hA36 hC36 hi036 hsz36
                              refine start_ (n := 11) (S := fun w' => True) (ds := []) #[false, false, false, false, false, false, false, false, false, false, false] (by kernel_rfl) rfl rfl trivial (fun hHeld => ?_); refine with_tabW lombardref18_Get.tab13 lombardref18_Get.bits13 (fun HT_ HW_ => ?_)
                              generalize w31.drew = w34 at BK279 HB HR287 HR289 hHeld ⊢
                              refine pure_ (i := 0) (N := some 56) (v := ?_) (a' := ?_) #[true, false, false, false, false, false, false, false, false, false, false] rfl rfl (any_of HT_.out (by kernel_rfl)) (fun _ _ _ h => h) (Or.inl ⟨by rfl, ?_⟩) ?_ ?_
                              rotate_left
                              · intro w'
                                go_simp
                                with_reducible rfl
                              rotate_left
                              · simp only [Act.put, List.setIfInBounds_toArray, List.set_cons_zero, List.set_cons_succ, i64_w, i32_w]
                                rfl
                              refine pure_ (i := 1) (N := some 57) (v := ?_) (a' := ?_) #[true, true, false, false, false, false, false, false, false, false, false] rfl rfl (any_of HT_.out (by kernel_rfl)) (fun _ _ _ h => h) (Or.inl ⟨by rfl, ?_⟩) ?_ ?_
                              rotate_left
                              · intro w'
                                go_simp
                                with_reducible rfl
                              rotate_left
                              · simp only [Act.put, List.setIfInBounds_toArray, List.set_cons_zero, List.set_cons_succ, i64_w, i32_w]
                                rfl
                              refine pure_ (i := 4) (N := some 60) (v := ?_) (a' := ?_) #[true, true, false, false, true, false, false, false, false, false, false] rfl rfl (any_of HT_.out (by kernel_rfl)) (fun _ _ _ h => h) (Or.inl ⟨by rfl, ?_⟩) ?_ ?_
                              rotate_left
                              · intro w'
                                go_simp
                                with_reducible rfl
                              rotate_left
                              · simp only [Act.put, List.setIfInBounds_toArray, List.set_cons_zero, List.set_cons_succ, i64_w, i32_w]
                                rfl
                              refine pure_ (i := 5) (N := some 61) (v := ?_) (a' := ?_) #[true, true, false, false, true, true, false, false, false, false, false] rfl rfl (any_of HT_.out (by kernel_rfl)) (fun _ _ _ h => h) (Or.inl ⟨by rfl, ?_⟩) ?_ ?_
                              rotate_left
                              · intro w'
                                go_simp
                                with_reducible rfl
                              rotate_left
                              · simp only [Act.put, List.setIfInBounds_toArray, List.set_cons_zero, List.set_cons_succ, i64_w, i32_w]
                                rfl
                              refine join_ (σ := Nat) 1 #[true, true, true, true, true, true, true, true, true, true, false] (fun s_ => [(58, .int .u64 t288), (62, .int .u64 t290), (6, .pointer (some ⟨s_, 0, none⟩)), (59, .int .i64 (wrap64 (t288))), (63, .int .i64 (wrap64 (t290))), (64, .agg #[.int .i64 (wrap64 (t288)), .int .i64 (wrap64 (t290)), .slice none 0 0])]) (fun s_ w' => (w'.heap[gb279]? = some (.cells #[.int .i64 0, .int .i64 0, .slice none 0 0] 24 (0, 0))) ∧ (w'.heap[s_]? = some (.cells #[.int .i64 0, .int .i64 0, .slice none 0 0] 24 (0, 0))) ∧ (w.heap.size ≤ s_) ∧ (w.heap.size ≤ s_) ∧ (gb279 ≠ s_) ∧ (s_ ≠ gb279) ∧ (Below w.heap.size w w')) ?_ ?_
                              rotate_left
                              · intro hCont
                                refine two_ (i := 2) (j := 9) (Ni := some 58) (Nj := some 6) #[true, true, true, false, true, true, false, false, false, false, false] #[true, true, false, false, true, true, false, false, false, true, false] rfl rfl rfl rfl (two_of HT_.out (by kernel_rfl)) (by decide) (by decide) (fun K hK => ?_) (fun K hK => ?_)
                                · skip
                                  refine goes_ Try.func33 (by kernel_rfl) rfl #[.slice A35 ((l0.take 6).drop 2).length (c0 - 2)] (by rfl) rfl rfl (by (try simp only [List.map_toArray, List.map_cons, List.map_nil]); first | done | (rw [show ((l0.take 6).drop 2).length = (6 - 2) from (by rw [List.length_drop, List.length_take]; have h_ : (6 : Int) ≤ (l0.length : Int) := of_decide_eq_true (by first | (with_reducible assumption) | assumption); omega)] <;> rfl) | rfl | (simp only [List.length_drop, List.length_take]; rfl)) ?_
                                  with_reducible refine (lombardref18_value.calls kj4 _ _ ((l0.take 6).drop 2) t288 _ ?side1 ?side2 A27.out).mono ?_
                                  (case side1 => repeat (first | exact (Kd.C_below HR287.out HB.out) | (with_reducible refine Kd.C_alloc ?_ _) | (with_reducible refine Kd.C_drewN ?_ _) | (with_reducible refine Kd.C_drew ?_)))
                                  (case side2 => exact HC287.out)
                                  rintro e w' ⟨rfl, ⟨nd, rfl⟩⟩
                                  refine ⟨_, rfl, ?_⟩
                                  refine hK.out _ _ trivial (fun hHeld => ?_)
                                  clear hK K
                                  refine norm_ (a' := ?_) ?_ ?_
                                  rotate_left
                                  · show Act.put _ (some 58) _ = _
                                    simp only [Act.put, List.setIfInBounds_toArray, List.set_cons_zero, List.set_cons_succ, i64_w, i32_w]
                                    rfl
                                  refine pure_ (i := 3) (N := some 59) (v := ?_) (a' := ?_) #[true, true, true, true, true, true, false, false, false, false, false] rfl rfl (any_of HT_.out (by kernel_rfl)) (fun _ _ _ h => h) (Or.inl ⟨by rfl, ?_⟩) ?_ ?_
                                  rotate_left
                                  · intro w'
                                    go_simp
                                    with_reducible rfl
                                  rotate_left
                                  · simp only [Act.put, List.setIfInBounds_toArray, List.set_cons_zero, List.set_cons_succ, i64_w, i32_w]
                                    rfl
                                  refine two_ (i := 6) (j := 9) (Ni := some 62) (Nj := some 6) #[true, true, true, true, true, true, true, false, false, false, false] #[true, true, true, true, true, true, false, false, false, true, false] rfl rfl rfl rfl (two_of HT_.out (by kernel_rfl)) (by decide) (by decide) (fun K hK => ?_) (fun K hK => ?_)
                                  · skip
                                    refine goes_ Try.func33 (by kernel_rfl) rfl #[.slice A36 ((l0.take 10).drop 6).length (c0 - 6)] (by rfl) rfl rfl (by (try simp only [List.map_toArray, List.map_cons, List.map_nil]); first | done | (rw [show ((l0.take 10).drop 6).length = (10 - 6) from (by rw [List.length_drop, List.length_take]; have h_ : (10 : Int) ≤ (l0.length : Int) := of_decide_eq_true (by first | (with_reducible assumption) | assumption); omega)] <;> rfl) | rfl | (simp only [List.length_drop, List.length_take]; rfl)) ?_
                                    with_reducible refine (lombardref18_value.calls kj4 _ _ ((l0.take 10).drop 6) t290 _ ?side1 ?side2 A30.out).mono ?_
                                    (case side1 => repeat (first | exact (Kd.C_below HR289.out (by repeat (first | (with_reducible first | exact HB.out | apply below_alloc | apply pw_below_drewN | apply below_drew1 | refine below_set ?_ GE279.out) | exact HB.out))) | (with_reducible refine Kd.C_alloc ?_ _) | (with_reducible refine Kd.C_drewN ?_ _) | (with_reducible refine Kd.C_drew ?_)))
                                    (case side2 => exact HC289.out)
                                    rintro e w' ⟨rfl, ⟨nd, rfl⟩⟩
                                    refine ⟨_, rfl, ?_⟩
                                    refine hK.out _ _ trivial (fun hHeld => ?_)
                                    clear hK K
                                    refine norm_ (a' := ?_) ?_ ?_
                                    rotate_left
                                    · show Act.put _ (some 62) _ = _
                                      simp only [Act.put, List.setIfInBounds_toArray, List.set_cons_zero, List.set_cons_succ, i64_w, i32_w]
                                      rfl
                                    refine pure_ (i := 7) (N := some 63) (v := ?_) (a' := ?_) #[true, true, true, true, true, true, true, true, false, false, false] rfl rfl (any_of HT_.out (by kernel_rfl)) (fun _ _ _ h => h) (Or.inl ⟨by rfl, ?_⟩) ?_ ?_
                                    rotate_left
                                    · intro w'
                                      go_simp
                                      with_reducible rfl
                                    rotate_left
                                    · simp only [Act.put, List.setIfInBounds_toArray, List.set_cons_zero, List.set_cons_succ, i64_w, i32_w]
                                      rfl
                                    refine pure_ (i := 8) (N := some 64) (v := ?_) (a' := ?_) #[true, true, true, true, true, true, true, true, true, false, false] rfl rfl (any_of HT_.out (by kernel_rfl)) (fun _ _ _ h => h) (Or.inl ⟨by rfl, ?_⟩) ?_ ?_
                                    rotate_left
                                    · intro w'
                                      go_simp
                                      with_reducible rfl
                                    rotate_left
                                    · simp only [Act.put, List.setIfInBounds_toArray, List.set_cons_zero, List.set_cons_succ, i64_w, i32_w]
                                      rfl
                                    refine one_ (i := 9) (N := some 6) #[true, true, true, true, true, true, true, true, true, true, false] rfl rfl (one_of HT_.out (by kernel_rfl)) (by decide) (fun K hK => ?_)
                                    refine box_step ?hg (N := 6) ?hd (cs := #[.int .i64 0, .int .i64 0, .slice none 0 0]) (t := 24) ?hr ?_; (case hd => rfl); (case hg => rfl); (case hr => first | (go_simp; done) | (go_simp; rfl))
                                    intro gb291 hg w37 hbox hb
                                    have n0_ := Aside0.mk (blk_below (g := gb279) (o := .cells #[.int .i64 0, .int .i64 0, .slice none 0 0] 24 (0, 0)) (by (with_reducible repeat (first | refine blk_drewN ?_ _ | refine blk_drew ?_ | refine blk_alloc ?_ _)); exact BK279.out) hb)
                                    have n1_ := Aside0.mk (below_step (by repeat (first | (with_reducible first | exact HB.out | apply below_alloc | apply pw_below_drewN | apply below_drew1 | refine below_set ?_ GE279.out) | exact HB.out)) hb)
                                    have n2_ := Aside0.mk (hbox)
                                    have n3_ := Aside0.mk ((by rw [hg]; exact (below_size (by repeat (first | (with_reducible first | exact HB.out | apply below_alloc | apply pw_below_drewN | apply below_drew1 | refine below_set ?_ GE279.out) | exact HB.out))) : w.heap.size ≤ gb291))
                                    have n4_ := Aside0.mk ((by rw [hg]; exact (below_size (by repeat (first | (with_reducible first | exact HB.out | apply below_alloc | apply pw_below_drewN | apply below_drew1 | refine below_set ?_ GE279.out) | exact HB.out))) : w.heap.size ≤ gb291))
                                    have n5_ := Aside0.mk ((by rw [hg]; exact Nat.ne_of_lt (blk_lt (g := gb279) (o := .cells #[.int .i64 0, .int .i64 0, .slice none 0 0] 24 (0, 0)) (by (with_reducible repeat (first | refine blk_drewN ?_ _ | refine blk_drew ?_ | refine blk_alloc ?_ _)); exact BK279.out)) : gb279 ≠ gb291))
                                    have n6_ := Aside0.mk ((by rw [hg]; exact Nat.ne_of_gt (blk_lt (g := gb279) (o := .cells #[.int .i64 0, .int .i64 0, .slice none 0 0] 24 (0, 0)) (by (with_reducible repeat (first | refine blk_drewN ?_ _ | refine blk_drew ?_ | refine blk_alloc ?_ _)); exact BK279.out)) : gb291 ≠ gb279))
                                    clear BK279
                                    clear HB
                                    have BK279 := n0_
                                    have HB := n1_
                                    have BK291 := n2_
                                    have GW291 := n3_
                                    have GE291 := n4_
                                    have NB279_291 := n5_
                                    have NB291_279 := n6_
                                    clear n0_ n1_ n2_ n3_ n4_ n5_ n6_
                                    clear hb hbox hg
                                    refine hK.out _ _ trivial (fun hHeld => ?_)
                                    clear hK K
                                    refine norm_ (a' := ?_) ?_ ?_
                                    rotate_left
                                    · show Act.put _ (some 6) _ = _
                                      simp only [Act.put, List.setIfInBounds_toArray, List.set_cons_zero, List.set_cons_succ, i64_w, i32_w]
                                      rfl
                                    exact norm_ (by simp only [putAll, Act.put, List.setIfInBounds_toArray, List.set_cons_zero, List.set_cons_succ]) (hCont (gb291) _ ⟨(by (with_reducible repeat (first | refine blk_drewN ?_ _ | refine blk_drew ?_ | refine blk_alloc ?_ _)); exact BK279.out), (by (with_reducible repeat (first | refine blk_drewN ?_ _ | refine blk_drew ?_ | refine blk_alloc ?_ _)); exact BK291.out), GW291.out, GE291.out, NB279_291.out, NB291_279.out, (by repeat (first | (with_reducible first | exact HB.out | apply below_alloc | apply pw_below_drewN | apply below_drew1 | refine below_set ?_ GE279.out | refine below_set ?_ GE291.out) | exact HB.out))⟩)
                                  · skip
                                    refine box_step ?hg (N := 6) ?hd (cs := #[.int .i64 0, .int .i64 0, .slice none 0 0]) (t := 24) ?hr ?_; (case hd => rfl); (case hg => rfl); (case hr => first | (go_simp; done) | (go_simp; rfl))
                                    intro gb291 hg w37 hbox hb
                                    have n0_ := Aside0.mk (blk_below (g := gb279) (o := .cells #[.int .i64 0, .int .i64 0, .slice none 0 0] 24 (0, 0)) (by (with_reducible repeat (first | refine blk_drewN ?_ _ | refine blk_drew ?_ | refine blk_alloc ?_ _)); exact BK279.out) hb)
                                    have n1_ := Aside0.mk (below_step (by repeat (first | (with_reducible first | exact HB.out | apply below_alloc | apply pw_below_drewN | apply below_drew1 | refine below_set ?_ GE279.out) | exact HB.out)) hb)
                                    have n2_ := Aside0.mk (hbox)
                                    have n3_ := Aside0.mk ((by rw [hg]; exact (below_size (by repeat (first | (with_reducible first | exact HB.out | apply below_alloc | apply pw_below_drewN | apply below_drew1 | refine below_set ?_ GE279.out) | exact HB.out))) : w.heap.size ≤ gb291))
                                    have n4_ := Aside0.mk ((by rw [hg]; exact (below_size (by repeat (first | (with_reducible first | exact HB.out | apply below_alloc | apply pw_below_drewN | apply below_drew1 | refine below_set ?_ GE279.out) | exact HB.out))) : w.heap.size ≤ gb291))
                                    have n5_ := Aside0.mk ((by rw [hg]; exact Nat.ne_of_lt (blk_lt (g := gb279) (o := .cells #[.int .i64 0, .int .i64 0, .slice none 0 0] 24 (0, 0)) (by (with_reducible repeat (first | refine blk_drewN ?_ _ | refine blk_drew ?_ | refine blk_alloc ?_ _)); exact BK279.out)) : gb279 ≠ gb291))
                                    have n6_ := Aside0.mk ((by rw [hg]; exact Nat.ne_of_gt (blk_lt (g := gb279) (o := .cells #[.int .i64 0, .int .i64 0, .slice none 0 0] 24 (0, 0)) (by (with_reducible repeat (first | refine blk_drewN ?_ _ | refine blk_drew ?_ | refine blk_alloc ?_ _)); exact BK279.out)) : gb291 ≠ gb279))
                                    clear BK279
                                    clear HB
                                    have BK279 := n0_
                                    have HB := n1_
                                    have BK291 := n2_
                                    have GW291 := n3_
                                    have GE291 := n4_
                                    have NB279_291 := n5_
                                    have NB291_279 := n6_
                                    clear n0_ n1_ n2_ n3_ n4_ n5_ n6_
                                    clear hb hbox hg
                                    refine hK.out _ _ trivial (fun hHeld => ?_)
                                    clear hK K
                                    refine norm_ (a' := ?_) ?_ ?_
                                    rotate_left
                                    · show Act.put _ (some 6) _ = _
                                      simp only [Act.put, List.setIfInBounds_toArray, List.set_cons_zero, List.set_cons_succ, i64_w, i32_w]
                                      rfl
                                    refine one_ (i := 6) (N := some 62) #[true, true, true, true, true, true, true, false, false, true, false] rfl rfl (one_of HT_.out (by kernel_rfl)) (by decide) (fun K hK => ?_)
                                    refine goes_ Try.func33 (by kernel_rfl) rfl #[.slice A36 ((l0.take 10).drop 6).length (c0 - 6)] (by rfl) rfl rfl (by (try simp only [List.map_toArray, List.map_cons, List.map_nil]); first | done | (rw [show ((l0.take 10).drop 6).length = (10 - 6) from (by rw [List.length_drop, List.length_take]; have h_ : (10 : Int) ≤ (l0.length : Int) := of_decide_eq_true (by first | (with_reducible assumption) | assumption); omega)] <;> rfl) | rfl | (simp only [List.length_drop, List.length_take]; rfl)) ?_
                                    with_reducible refine (lombardref18_value.calls kj4 _ _ ((l0.take 10).drop 6) t290 _ ?side1 ?side2 A30.out).mono ?_
                                    (case side1 => repeat (first | exact (Kd.C_below HR289.out HB.out) | (with_reducible refine Kd.C_alloc ?_ _) | (with_reducible refine Kd.C_drewN ?_ _) | (with_reducible refine Kd.C_drew ?_)))
                                    (case side2 => exact HC289.out)
                                    rintro e w' ⟨rfl, ⟨nd, rfl⟩⟩
                                    refine ⟨_, rfl, ?_⟩
                                    refine hK.out _ _ trivial (fun hHeld => ?_)
                                    clear hK K
                                    refine norm_ (a' := ?_) ?_ ?_
                                    rotate_left
                                    · show Act.put _ (some 62) _ = _
                                      simp only [Act.put, List.setIfInBounds_toArray, List.set_cons_zero, List.set_cons_succ, i64_w, i32_w]
                                      rfl
                                    refine pure_ (i := 7) (N := some 63) (v := ?_) (a' := ?_) #[true, true, true, true, true, true, true, true, false, true, false] rfl rfl (any_of HT_.out (by kernel_rfl)) (fun _ _ _ h => h) (Or.inl ⟨by rfl, ?_⟩) ?_ ?_
                                    rotate_left
                                    · intro w'
                                      go_simp
                                      with_reducible rfl
                                    rotate_left
                                    · simp only [Act.put, List.setIfInBounds_toArray, List.set_cons_zero, List.set_cons_succ, i64_w, i32_w]
                                      rfl
                                    refine pure_ (i := 8) (N := some 64) (v := ?_) (a' := ?_) #[true, true, true, true, true, true, true, true, true, true, false] rfl rfl (any_of HT_.out (by kernel_rfl)) (fun _ _ _ h => h) (Or.inl ⟨by rfl, ?_⟩) ?_ ?_
                                    rotate_left
                                    · intro w'
                                      go_simp
                                      with_reducible rfl
                                    rotate_left
                                    · simp only [Act.put, List.setIfInBounds_toArray, List.set_cons_zero, List.set_cons_succ, i64_w, i32_w]
                                      rfl
                                    exact norm_ (by simp only [putAll, Act.put, List.setIfInBounds_toArray, List.set_cons_zero, List.set_cons_succ]) (hCont (gb291) _ ⟨(by (with_reducible repeat (first | refine blk_drewN ?_ _ | refine blk_drew ?_ | refine blk_alloc ?_ _)); exact BK279.out), (by (with_reducible repeat (first | refine blk_drewN ?_ _ | refine blk_drew ?_ | refine blk_alloc ?_ _)); exact BK291.out), GW291.out, GE291.out, NB279_291.out, NB291_279.out, (by repeat (first | (with_reducible first | exact HB.out | apply below_alloc | apply pw_below_drewN | apply below_drew1 | refine below_set ?_ GE279.out | refine below_set ?_ GE291.out) | exact HB.out))⟩)
                                · skip
                                  refine box_step ?hg (N := 6) ?hd (cs := #[.int .i64 0, .int .i64 0, .slice none 0 0]) (t := 24) ?hr ?_; (case hd => rfl); (case hg => rfl); (case hr => first | (go_simp; done) | (go_simp; rfl))
                                  intro gb291 hg w37 hbox hb
                                  have n0_ := Aside0.mk (blk_below (g := gb279) (o := .cells #[.int .i64 0, .int .i64 0, .slice none 0 0] 24 (0, 0)) (by (with_reducible repeat (first | refine blk_drewN ?_ _ | refine blk_drew ?_ | refine blk_alloc ?_ _)); exact BK279.out) hb)
                                  have n1_ := Aside0.mk (below_step (by repeat (first | (with_reducible first | exact HB.out | apply below_alloc | apply pw_below_drewN | apply below_drew1 | refine below_set ?_ GE279.out) | exact HB.out)) hb)
                                  have n2_ := Aside0.mk (hbox)
                                  have n3_ := Aside0.mk ((by rw [hg]; exact (below_size (by repeat (first | (with_reducible first | exact HB.out | apply below_alloc | apply pw_below_drewN | apply below_drew1 | refine below_set ?_ GE279.out) | exact HB.out))) : w.heap.size ≤ gb291))
                                  have n4_ := Aside0.mk ((by rw [hg]; exact (below_size (by repeat (first | (with_reducible first | exact HB.out | apply below_alloc | apply pw_below_drewN | apply below_drew1 | refine below_set ?_ GE279.out) | exact HB.out))) : w.heap.size ≤ gb291))
                                  have n5_ := Aside0.mk ((by rw [hg]; exact Nat.ne_of_lt (blk_lt (g := gb279) (o := .cells #[.int .i64 0, .int .i64 0, .slice none 0 0] 24 (0, 0)) (by (with_reducible repeat (first | refine blk_drewN ?_ _ | refine blk_drew ?_ | refine blk_alloc ?_ _)); exact BK279.out)) : gb279 ≠ gb291))
                                  have n6_ := Aside0.mk ((by rw [hg]; exact Nat.ne_of_gt (blk_lt (g := gb279) (o := .cells #[.int .i64 0, .int .i64 0, .slice none 0 0] 24 (0, 0)) (by (with_reducible repeat (first | refine blk_drewN ?_ _ | refine blk_drew ?_ | refine blk_alloc ?_ _)); exact BK279.out)) : gb291 ≠ gb279))
                                  clear BK279
                                  clear HB
                                  have BK279 := n0_
                                  have HB := n1_
                                  have BK291 := n2_
                                  have GW291 := n3_
                                  have GE291 := n4_
                                  have NB279_291 := n5_
                                  have NB291_279 := n6_
                                  clear n0_ n1_ n2_ n3_ n4_ n5_ n6_
                                  clear hb hbox hg
                                  refine hK.out _ _ trivial (fun hHeld => ?_)
                                  clear hK K
                                  refine norm_ (a' := ?_) ?_ ?_
                                  rotate_left
                                  · show Act.put _ (some 6) _ = _
                                    simp only [Act.put, List.setIfInBounds_toArray, List.set_cons_zero, List.set_cons_succ, i64_w, i32_w]
                                    rfl
                                  refine one_ (i := 2) (N := some 58) #[true, true, true, false, true, true, false, false, false, true, false] rfl rfl (one_of HT_.out (by kernel_rfl)) (by decide) (fun K hK => ?_)
                                  refine goes_ Try.func33 (by kernel_rfl) rfl #[.slice A35 ((l0.take 6).drop 2).length (c0 - 2)] (by rfl) rfl rfl (by (try simp only [List.map_toArray, List.map_cons, List.map_nil]); first | done | (rw [show ((l0.take 6).drop 2).length = (6 - 2) from (by rw [List.length_drop, List.length_take]; have h_ : (6 : Int) ≤ (l0.length : Int) := of_decide_eq_true (by first | (with_reducible assumption) | assumption); omega)] <;> rfl) | rfl | (simp only [List.length_drop, List.length_take]; rfl)) ?_
                                  with_reducible refine (lombardref18_value.calls kj4 _ _ ((l0.take 6).drop 2) t288 _ ?side1 ?side2 A27.out).mono ?_
                                  (case side1 => repeat (first | exact (Kd.C_below HR287.out HB.out) | (with_reducible refine Kd.C_alloc ?_ _) | (with_reducible refine Kd.C_drewN ?_ _) | (with_reducible refine Kd.C_drew ?_)))
                                  (case side2 => exact HC287.out)
                                  rintro e w' ⟨rfl, ⟨nd, rfl⟩⟩
                                  refine ⟨_, rfl, ?_⟩
                                  refine hK.out _ _ trivial (fun hHeld => ?_)
                                  clear hK K
                                  refine norm_ (a' := ?_) ?_ ?_
                                  rotate_left
                                  · show Act.put _ (some 58) _ = _
                                    simp only [Act.put, List.setIfInBounds_toArray, List.set_cons_zero, List.set_cons_succ, i64_w, i32_w]
                                    rfl
                                  refine pure_ (i := 3) (N := some 59) (v := ?_) (a' := ?_) #[true, true, true, true, true, true, false, false, false, true, false] rfl rfl (any_of HT_.out (by kernel_rfl)) (fun _ _ _ h => h) (Or.inl ⟨by rfl, ?_⟩) ?_ ?_
                                  rotate_left
                                  · intro w'
                                    go_simp
                                    with_reducible rfl
                                  rotate_left
                                  · simp only [Act.put, List.setIfInBounds_toArray, List.set_cons_zero, List.set_cons_succ, i64_w, i32_w]
                                    rfl
                                  refine one_ (i := 6) (N := some 62) #[true, true, true, true, true, true, true, false, false, true, false] rfl rfl (one_of HT_.out (by kernel_rfl)) (by decide) (fun K hK => ?_)
                                  refine goes_ Try.func33 (by kernel_rfl) rfl #[.slice A36 ((l0.take 10).drop 6).length (c0 - 6)] (by rfl) rfl rfl (by (try simp only [List.map_toArray, List.map_cons, List.map_nil]); first | done | (rw [show ((l0.take 10).drop 6).length = (10 - 6) from (by rw [List.length_drop, List.length_take]; have h_ : (10 : Int) ≤ (l0.length : Int) := of_decide_eq_true (by first | (with_reducible assumption) | assumption); omega)] <;> rfl) | rfl | (simp only [List.length_drop, List.length_take]; rfl)) ?_
                                  with_reducible refine (lombardref18_value.calls kj4 _ _ ((l0.take 10).drop 6) t290 _ ?side1 ?side2 A30.out).mono ?_
                                  (case side1 => repeat (first | exact (Kd.C_below HR289.out (by repeat (first | (with_reducible first | exact HB.out | apply below_alloc | apply pw_below_drewN | apply below_drew1 | refine below_set ?_ GE279.out | refine below_set ?_ GE291.out) | exact HB.out))) | (with_reducible refine Kd.C_alloc ?_ _) | (with_reducible refine Kd.C_drewN ?_ _) | (with_reducible refine Kd.C_drew ?_)))
                                  (case side2 => exact HC289.out)
                                  rintro e w' ⟨rfl, ⟨nd, rfl⟩⟩
                                  refine ⟨_, rfl, ?_⟩
                                  refine hK.out _ _ trivial (fun hHeld => ?_)
                                  clear hK K
                                  refine norm_ (a' := ?_) ?_ ?_
                                  rotate_left
                                  · show Act.put _ (some 62) _ = _
                                    simp only [Act.put, List.setIfInBounds_toArray, List.set_cons_zero, List.set_cons_succ, i64_w, i32_w]
                                    rfl
                                  refine pure_ (i := 7) (N := some 63) (v := ?_) (a' := ?_) #[true, true, true, true, true, true, true, true, false, true, false] rfl rfl (any_of HT_.out (by kernel_rfl)) (fun _ _ _ h => h) (Or.inl ⟨by rfl, ?_⟩) ?_ ?_
                                  rotate_left
                                  · intro w'
                                    go_simp
                                    with_reducible rfl
                                  rotate_left
                                  · simp only [Act.put, List.setIfInBounds_toArray, List.set_cons_zero, List.set_cons_succ, i64_w, i32_w]
                                    rfl
                                  refine pure_ (i := 8) (N := some 64) (v := ?_) (a' := ?_) #[true, true, true, true, true, true, true, true, true, true, false] rfl rfl (any_of HT_.out (by kernel_rfl)) (fun _ _ _ h => h) (Or.inl ⟨by rfl, ?_⟩) ?_ ?_
                                  rotate_left
                                  · intro w'
                                    go_simp
                                    with_reducible rfl
                                  rotate_left
                                  · simp only [Act.put, List.setIfInBounds_toArray, List.set_cons_zero, List.set_cons_succ, i64_w, i32_w]
                                    rfl
                                  exact norm_ (by simp only [putAll, Act.put, List.setIfInBounds_toArray, List.set_cons_zero, List.set_cons_succ]) (hCont (gb291) _ ⟨(by (with_reducible repeat (first | refine blk_drewN ?_ _ | refine blk_drew ?_ | refine blk_alloc ?_ _)); exact BK279.out), (by (with_reducible repeat (first | refine blk_drewN ?_ _ | refine blk_drew ?_ | refine blk_alloc ?_ _)); exact BK291.out), GW291.out, GE291.out, NB279_291.out, NB291_279.out, (by repeat (first | (with_reducible first | exact HB.out | apply below_alloc | apply pw_below_drewN | apply below_drew1 | refine below_set ?_ GE279.out | refine below_set ?_ GE291.out) | exact HB.out))⟩)
                              rintro gb291 w38 ⟨h0_, h1_, h2_, h3_, h4_, h5_, h6_⟩
                              have n0_ : Aside0 (w38.heap[gb279]? = some (.cells #[.int .i64 0, .int .i64 0, .slice none 0 0] 24 (0, 0))) := ⟨h0_⟩
                              have n1_ : Aside0 (w38.heap[gb291]? = some (.cells #[.int .i64 0, .int .i64 0, .slice none 0 0] 24 (0, 0))) := ⟨h1_⟩
                              have n2_ : Aside0 (w.heap.size ≤ gb291) := ⟨h2_⟩
                              have n3_ : Aside0 (w.heap.size ≤ gb291) := ⟨h3_⟩
                              have n4_ : Aside0 (gb279 ≠ gb291) := ⟨h4_⟩
                              have n5_ : Aside0 (gb291 ≠ gb279) := ⟨h5_⟩
                              have n6_ : Aside0 (Below w.heap.size w w38) := ⟨h6_⟩
                              clear BK279
                              clear HB
                              clear h0_ h1_ h2_ h3_ h4_ h5_ h6_
                              have BK279 := n0_
                              have BK291 := n1_
                              have GW291 := n2_
                              have GE291 := n3_
                              have NB279_291 := n4_
                              have NB291_279 := n5_
                              have HB := n6_
                              clear n0_ n1_ n2_ n3_ n4_ n5_ n6_
                              have hHeld := trivial
                              refine norm_ (a' := ?_) ?_ ?_
                              rotate_left
                              · simp only [putAll, Act.put, List.setIfInBounds_toArray, List.set_cons_zero, List.set_cons_succ]
                                rfl
                              refine one_ (i := 10) (N := none) #[true, true, true, true, true, true, true, true, true, true, true] rfl rfl (one_of HT_.out (by kernel_rfl)) (by decide) (fun K hK => ?_)
                              have hs39 : w38.cell? ⟨gb291, 0, none⟩ = some (.int .i64 0) := (blk_cell BK291.out 0).trans rfl
                              have hfs39 := blk_frozen BK291.out 0
                              have hns39_0 := NB279_291.out
                              have hms39_0 := NB291_279.out
                              have hs40 : w38.cell? ⟨gb291, 1, none⟩ = some (.int .i64 0) := (blk_cell BK291.out 1).trans rfl
                              have hfs40 := blk_frozen BK291.out 1
                              have hns40_0 := NB279_291.out
                              have hms40_0 := NB291_279.out
                              have hs41 : w38.cell? ⟨gb291, 2, none⟩ = some (.slice none 0 0) := (blk_cell BK291.out 2).trans rfl
                              have hfs41 := blk_frozen BK291.out 2
                              have hns41_0 := NB279_291.out
                              have hms41_0 := NB291_279.out
                              refine skip_ (w1 := ?_) (by rfl) rfl ?_ ?_
                              rotate_left
                              · go_simp
                                rfl
                              refine hK.out _ _ trivial (fun hHeld => ?_)
                              clear hK K
                              refine done_ (done_of HT_.out (by kernel_rfl)) ?_
                              try go_wp2
                              go_loopg [7] kj4 (fun kq v7 w' => ∃ (x7_2 : Int) (x292002_2 : List (S59)) (u292002 : Value), v7 = .int .i64 x7_2 ∧ Aside0 (lombardref18_Get.l0 kq l0 (wrap64 (rd l0 10)) x7_2 (wrap64 (t288)) (wrap64 (t290)) x292002_2 = some (r1, r2, r3, r4)) ∧ Aside0 (kq ≤ kj4) ∧ Aside0 (Kd.R k59 59 w' w.heap.size (fun _ => True) u292002 x292002_2) ∧ Aside0 (w'.heap[gb279]? = some (.cells #[.int .i64 0, .int .i64 0, (.slice none 0 0)] 24 (0, 0))) ∧ Aside0 (w'.heap[gb291]? = some (.cells #[.int .i64 (wrap64 (t288)), .int .i64 (wrap64 (t290)), u292002] 24 (0, 0))) ∧ Aside0 (Below w.heap.size w w'))
                              case atStart => exact ⟨(0), (([] : List (S59))), (.slice none 0 0), (by first | rfl | (simp; done) | (simp [*]; done)), H', ⟨Nat.le_refl _⟩, ⟨by first | exact Kd.R_nil _ _ _ _ _ | exact Kd.N_nil _ _ _ _ _ | exact Kd.V_nil _ _ _ _ _ | exact Kd.Q_nil _ _ _ _ _ | exact Kd.S_nil _ _ _ _ _⟩, ⟨by (with_reducible repeat (first | refine blk_drewN ?_ _ | refine blk_drew ?_ | refine blk_alloc ?_ _)); refine blk_far ?_ NB279_291.out _; (with_reducible repeat (first | refine blk_drewN ?_ _ | refine blk_drew ?_ | refine blk_alloc ?_ _)); refine blk_far ?_ NB279_291.out _; (with_reducible repeat (first | refine blk_drewN ?_ _ | refine blk_drew ?_ | refine blk_alloc ?_ _)); refine blk_far ?_ NB279_291.out _; (with_reducible repeat (first | refine blk_drewN ?_ _ | refine blk_drew ?_ | refine blk_alloc ?_ _)); exact BK279.out⟩, ⟨by (with_reducible repeat (first | refine blk_drewN ?_ _ | refine blk_drew ?_ | refine blk_alloc ?_ _)); refine blk_put (cs := #[.int .i64 (wrap64 (t288)), .int .i64 (wrap64 (t290)), .slice none 0 0]) ?_ 2 _ rfl; (with_reducible repeat (first | refine blk_drewN ?_ _ | refine blk_drew ?_ | refine blk_alloc ?_ _)); refine blk_put (cs := #[.int .i64 (wrap64 (t288)), .int .i64 0, .slice none 0 0]) ?_ 1 _ rfl; (with_reducible repeat (first | refine blk_drewN ?_ _ | refine blk_drew ?_ | refine blk_alloc ?_ _)); refine blk_put (cs := #[.int .i64 0, .int .i64 0, .slice none 0 0]) ?_ 0 _ rfl; (with_reducible repeat (first | refine blk_drewN ?_ _ | refine blk_drew ?_ | refine blk_alloc ?_ _)); exact BK291.out⟩, ⟨by repeat (first | (with_reducible first | exact HB.out | apply below_alloc | apply pw_below_drewN | apply below_drew1 | refine below_set ?_ GE279.out | refine below_set ?_ GE291.out) | exact HB.out)⟩⟩
                              case round =>
                                clear H'
                                try clear c1
                                try clear c2
                                try clear p2
                                try clear q2
                                try clear hx2
                                try clear qi2
                                try clear c3
                                try clear p6
                                try clear c10
                                try clear c12
                                try clear c12b0
                                try clear c12b1
                                try clear c13
                                try clear c13b0
                                try clear c15
                                try clear c15b0
                                try clear c17
                                try clear c18
                                try clear c18b0
                                try clear c18b1
                                try clear c19
                                try clear c19b0
                                try clear c19b1
                                try clear c21
                                try clear c21b0
                                try clear c22
                                try clear c22b0
                                try clear c24
                                try clear c24b0
                                try clear c24b1
                                try clear c25
                                try clear c25b0
                                try clear c25b1
                                try clear c26
                                try clear c26b0
                                try clear c26b1
                                try clear c28
                                try clear c28b0
                                try clear c28b1
                                try clear p28
                                try clear q28
                                try clear hx28
                                try clear qi28
                                try clear c29
                                try clear c29b0
                                try clear c29b1
                                try clear c33
                                try clear hcz11_0
                                try clear hcz11_1
                                try clear hcz11_2
                                try clear hcz14_0
                                try clear hcz14_1
                                try clear hcz14_2
                                try clear hcz16_0
                                try clear hcz16_1
                                try clear hcz16_2
                                try clear hfz11_0
                                try clear hfz11_1
                                try clear hfz11_2
                                try clear hfz14_0
                                try clear hfz14_1
                                try clear hfz14_2
                                try clear hfz16_0
                                try clear hfz16_1
                                try clear hfz16_2
                                try clear hx282_0
                                try clear p282
                                try clear q282
                                obtain ⟨x7_2, x292002_2, u292002, rfl, HA, HK2, HO_292002, BK279, BK291, HB⟩ := hrel
                                cases gk with
                                | zero => exact absurd HA.out (by simp [lombardref18_Get.l0])
                                | succ k2 =>
                                  have H := HA.out
                                  clear HA
                                  simp only [lombardref18_Get.l0] at H
                                  by_cases c42 : x7_2 < (wrap64 (rd l0 10))
                                  · rw [if_pos c42] at H
                                    have c42b0 : decide (x7_2 < (wrap64 (rd l0 10))) = true := decide_eq_true c42
                                    clear c42
                                    obtain ⟨ji43, hji43⟩ : ∃ j_ : Int, (wrap64 (11 + (wrap64 (9 * x7_2)))) = j_ := ⟨_, rfl⟩
                                    replace H : (if 0 ≤ (ji43) then (if (ji43) ≤ (wrap64 (20 + (wrap64 (9 * x7_2)))) then (if (wrap64 (20 + (wrap64 (9 * x7_2)))) ≤ (l0.length : Int) then (if 0 < (((l0.take ((wrap64 (20 + (wrap64 (9 * x7_2)))) : Int).toNat).drop ((ji43) : Int).toNat).length : Int) then (if 1 ≤ (((l0.take ((wrap64 (20 + (wrap64 (9 * x7_2)))) : Int).toNat).drop ((ji43) : Int).toNat).length : Int) then ((lombardref18_value.f k2 (((l0.take ((wrap64 (20 + (wrap64 (9 * x7_2)))) : Int).toNat).drop ((ji43) : Int).toNat).drop 1)).bind fun t295 => (if x292002_2.length < 8796093022208 then (lombardref18_Get.l0 k2 l0 (wrap64 (rd l0 10)) (wrap64 (x7_2 + 1)) (wrap64 (t288)) (wrap64 (t290)) (x292002_2 ++ [(⟨wrap64 (rd ((l0.take ((wrap64 (20 + (wrap64 (9 * x7_2)))) : Int).toNat).drop ((ji43) : Int).toNat) 0), wrap64 (t295)⟩ : S59)])) else (none))) else (none)) else (none)) else (none)) else (none)) else (none)) = some (r1, r2, r3, r4) := by first | (rw [hji43] at H; exact H) | (simp only [hji43] at H ⊢; exact H)
                                    have hji43w : (IntKind.i64.wrap (11 + (wrap64 (9 * x7_2)))) = ji43 := (i64_w _).trans hji43
                                    by_cases c44 : 0 ≤ (ji43)
                                    · rw [if_pos c44] at H
                                      have c44b0 := eq_true c44
                                      have c44b1 : decide (0 ≤ (ji43)) = true := decide_eq_true c44
                                      clear c44
                                      by_cases c45 : (ji43) ≤ (wrap64 (20 + (wrap64 (9 * x7_2))))
                                      · rw [if_pos c45] at H
                                        have c45b0 := eq_true c45
                                        have c45b1 : decide ((ji43) ≤ (wrap64 (20 + (wrap64 (9 * x7_2))))) = true := decide_eq_true c45
                                        by_cases c46 : (wrap64 (20 + (wrap64 (9 * x7_2)))) ≤ (l0.length : Int)
                                        · rw [if_pos c46] at H
                                          have c46b0 := eq_true c46
                                          have c46b1 : decide ((wrap64 (20 + (wrap64 (9 * x7_2)))) ≤ (l0.length : Int)) = true := decide_eq_true c46
                                          by_cases c47 : 0 < (((l0.take ((wrap64 (20 + (wrap64 (9 * x7_2)))) : Int).toNat).drop ((ji43) : Int).toNat).length : Int)
                                          · rw [if_pos c47] at H
                                            have c47b0 : decide (0 < (((l0.take ((wrap64 (20 + (wrap64 (9 * x7_2)))) : Int).toNat).drop ((ji43) : Int).toNat).length : Int)) = true := decide_eq_true c47
                                            have c47b1 : decide (0 < ((l0.take ((wrap64 (20 + (wrap64 (9 * x7_2)))) : Int).toNat).drop ((ji43) : Int).toNat).length) = true := decide_eq_true (by omega)
                                            clear c47
                                            by_cases c48 : 1 ≤ (((l0.take ((wrap64 (20 + (wrap64 (9 * x7_2)))) : Int).toNat).drop ((ji43) : Int).toNat).length : Int)
                                            · rw [if_pos c48] at H
                                              have c48b0 := eq_true c48
                                              have c48b1 : decide (1 ≤ (((l0.take ((wrap64 (20 + (wrap64 (9 * x7_2)))) : Int).toNat).drop ((ji43) : Int).toNat).length : Int)) = true := decide_eq_true c48
                                              replace H := Option.bind_eq_some_iff.mp H
                                              obtain ⟨t295, A490, H⟩ := H
                                              replace H : (if x292002_2.length < 8796093022208 then (lombardref18_Get.l0 k2 l0 (wrap64 (rd l0 10)) (wrap64 (x7_2 + 1)) (wrap64 (t288)) (wrap64 (t290)) (x292002_2 ++ [(⟨wrap64 (rd ((l0.take ((wrap64 (20 + (wrap64 (9 * x7_2)))) : Int).toNat).drop ((ji43) : Int).toNat) 0), wrap64 (t295)⟩ : S59)])) else (none)) = some (r1, r2, r3, r4) := H
                                              have A49 := Aside0.mk A490
                                              clear A490
                                              by_cases c50 : x292002_2.length < 8796093022208
                                              · rw [if_pos c50] at H
                                                have LMc50 := Aside0.mk c50
                                                clear c50
                                                obtain ⟨y296, hy296⟩ : ∃ y_ : List (S59), y_ = (x292002_2 ++ [(⟨wrap64 (rd ((l0.take ((wrap64 (20 + (wrap64 (9 * x7_2)))) : Int).toNat).drop ((ji43) : Int).toNat) 0), wrap64 (t295)⟩ : S59)]) := ⟨_, rfl⟩
                                                replace H : (lombardref18_Get.l0 k2 l0 (wrap64 (rd l0 10)) (wrap64 (x7_2 + 1)) (wrap64 (t288)) (wrap64 (t290)) y296) = some (r1, r2, r3, r4) := by first | (rw [hy296]; with_reducible exact H) | (have H2_ := (Option.bind_some _ _).symm.trans H; rw [hy296]; with_reducible exact H2_) | (have H2_ := (Option.bind_some _ _).symm.trans H; with_reducible exact H2_) | with_reducible exact H | (rw [hy296]; exact H) | exact H
                                                have Ny296 := Aside0.mk hy296
                                                clear hy296
                                                have H' := Aside0.mk H
                                                clear H
                                                obtain ⟨i051, hi051, _, hsz51, _⟩ := info_parts info5
                                                obtain ⟨A51, hcut51, hA51, hC51⟩ := print_mid_of (P := Try.prog) (Value.int .u8) 0 25 5 .i64 .i64 Try.underlying25 hi051 hsz51 (some ad282) c0 l0 (ji43) (wrap64 (20 + (wrap64 (9 * x7_2)))) (of_decide_eq_true (by first | (with_reducible assumption) | assumption)) (by first | omega | exact of_decide_eq_true (by first | (with_reducible assumption) | assumption)) (of_decide_eq_true (by first | (with_reducible assumption) | assumption)) HC0.out
                                                have HR292 := Aside0.mk (Kd.C_of_reads (h1 := fun _ => rfl) (hA51 _ (Kd.reads_of_C HR0.out)))
                                                have HC292 := Aside0.mk hC51
                                                clear hA51 hC51 hi051 hsz51
                                                try go_wp2
                                                have n0_ := Aside0.mk (Kd.R_drew HO_292002.out)
                                                have n1_ := Aside0.mk (blk_drew BK279.out)
                                                have n2_ := Aside0.mk (blk_drew BK291.out)
                                                have n3_ := Aside0.mk (below_drew1 HB.out)
                                                clear HO_292002
                                                clear BK279
                                                clear BK291
                                                clear HB
                                                have HO_292002 := n0_
                                                have BK279 := n1_
                                                have BK291 := n2_
                                                have HB := n3_
                                                clear n0_ n1_ n2_ n3_
                                                have p293 : 0 ≤ (0 : Int) := (by omega)
                                                have q293 : 0 < (((l0.take ((wrap64 (20 + (wrap64 (9 * x7_2)))) : Int).toNat).drop ((ji43) : Int).toNat).length : Int) := of_decide_eq_true (by first | (with_reducible assumption) | assumption)
                                                obtain ⟨ad293, e293, hx293_0⟩ := Kd.at_int HR292.out 0 p293 q293
                                                have hw293_0 := hx293_0
                                                (try rw [show ((0 : Int)).toNat = 0 from rfl] at hw293_0)
                                                (try rw [show 0 * 1 = 0 from rfl] at hw293_0)
                                                (try rw [Addr.add_zero'] at hw293_0)
                                                cases e293
                                                have qi293 : (0 < ((l0.take ((wrap64 (20 + (wrap64 (9 * x7_2)))) : Int).toNat).drop ((ji43) : Int).toNat).length) = True := eq_true (by omega)
                                                have hq0_ : (0 < (wrap64 (20 + wrap64 (9 * x7_2))).toNat - (ji43 : Int).toNat) = True := eq_true (by have h_ := of_eq_true qi293; rw [List.length_drop, List.length_take] at h_; omega)
                                                have hq1_ : (1 ≤ (((wrap64 (20 + wrap64 (9 * x7_2))).toNat - (ji43 : Int).toNat : Nat) : Int)) = True := eq_true (by have h_ := of_eq_true hq0_; omega)
                                                (try rw [show ((0 : Int)).toNat = 0 from rfl] at hx293_0)
                                                (try rw [Addr.add_zero'] at hx293_0)
                                                replace hx293_0 := (HB.out.cell (World.block_lt_of_cell? w _ hx293_0)).trans hx293_0
                                                replace p293 := eq_true p293
                                                replace q293 := eq_true q293
                                                obtain ⟨i053, hi053, _, hsz53, _⟩ := info_parts info5
                                                obtain ⟨A53, hcut53, hA53, hC53⟩ := print_drop_of (P := Try.prog) (Value.int .u8) 0 25 5 .i64 Try.underlying25 hi053 hsz53 (some ad293) (c0 - (ji43).toNat) ((l0.take ((wrap64 (20 + (wrap64 (9 * x7_2)))) : Int).toNat).drop ((ji43) : Int).toNat) 1 (by omega) (of_decide_eq_true (by first | (with_reducible assumption) | assumption)) HC292.out
                                                have hle_ : (wrap64 (20 + (wrap64 (9 * x7_2)))) ≤ (l0.length : Int) := of_decide_eq_true (by first | (with_reducible assumption) | assumption)
                                                have hL_ : ((l0.take ((wrap64 (20 + (wrap64 (9 * x7_2)))) : Int).toNat).drop ((ji43) : Int).toNat).length = (wrap64 (20 + wrap64 (9 * x7_2))).toNat - (ji43 : Int).toNat := by rw [List.length_drop, List.length_take, Nat.min_eq_left (by omega)]
                                                rw [hL_] at hcut53
                                                have hL2_ : (((l0.take ((wrap64 (20 + (wrap64 (9 * x7_2)))) : Int).toNat).drop ((ji43) : Int).toNat).drop 1).length = (wrap64 (20 + wrap64 (9 * x7_2))).toNat - (ji43 : Int).toNat - 1 := by rw [List.length_drop, hL_]
                                                clear hle_ hL_
                                                have HR294 := Aside0.mk (Kd.C_of_reads (h1 := fun _ => rfl) (hA53 _ (Kd.reads_of_C HR292.out)))
                                                have HC294 := Aside0.mk hC53
                                                clear hA53 hC53 hi053 hsz53
                                                refine start_ (n := 15) (S := fun w' => w'.cell? ⟨gb291, 0, none⟩ = some (.int .i64 (wrap64 (t288))) ∧ w'.cell? ⟨gb291, 1, none⟩ = some (.int .i64 (wrap64 (t290))) ∧ w'.cell? ⟨gb291, 2, none⟩ = some (u292002) ∧ w'.cell? ad293 = some (.int .u8 (rd ((l0.take ((wrap64 (20 + (wrap64 (9 * x7_2)))) : Int).toNat).drop ((ji43) : Int).toNat) 0))) (ds := [14]) #[false, false, false, false, false, false, false, false, false, false, false, false, false, false, false] (by kernel_rfl) rfl rfl ⟨(blk_cell BK291.out 0).trans rfl, (blk_cell BK291.out 1).trans rfl, (blk_cell BK291.out 2).trans rfl, ((HB.out.cell (World.block_lt_of_cell? w _ hw293_0)).trans hw293_0)⟩ (fun hHeld => ?_); refine with_tabW lombardref18_Get.tab18 lombardref18_Get.bits18 (fun HT_ HW_ => ?_)
                                                generalize wr.drew = w52 at HO_292002 BK279 BK291 HB HR294 hx293_0 hHeld ⊢
                                                refine pure_ (i := 0) (N := some 78) (v := ?_) (a' := ?_) #[true, false, false, false, false, false, false, false, false, false, false, false, false, false, false] rfl rfl (any_of HT_.out (by kernel_rfl)) (fun _ _ _ h => h) (Or.inl ⟨by rfl, ?_⟩) ?_ ?_
                                                rotate_left
                                                · intro w'
                                                  go_simp
                                                  with_reducible rfl
                                                rotate_left
                                                · simp only [Act.put, List.setIfInBounds_toArray, List.set_cons_zero, List.set_cons_succ, i64_w, i32_w]
                                                  rfl
                                                refine pure_ (i := 2) (N := some 80) (v := ?_) (a' := ?_) #[true, false, true, false, false, false, false, false, false, false, false, false, false, false, false] rfl rfl (any_of HT_.out (by kernel_rfl)) (fun _ _ _ h => h) (Or.inl ⟨by rfl, ?_⟩) ?_ ?_
                                                rotate_left
                                                · intro w'
                                                  go_simp
                                                  with_reducible rfl
                                                rotate_left
                                                · simp only [Act.put, List.setIfInBounds_toArray, List.set_cons_zero, List.set_cons_succ, i64_w, i32_w]
                                                  rfl
                                                refine pure_ (i := 3) (N := some 81) (v := ?_) (a' := ?_) #[true, false, true, true, false, false, false, false, false, false, false, false, false, false, false] rfl rfl (any_of HT_.out (by kernel_rfl)) (fun _ _ _ h => h) (Or.inl ⟨by rfl, ?_⟩) ?_ ?_
                                                rotate_left
                                                · intro w'
                                                  go_simp
                                                  with_reducible rfl
                                                rotate_left
                                                · simp only [Act.put, List.setIfInBounds_toArray, List.set_cons_zero, List.set_cons_succ, i64_w, i32_w]
                                                  rfl
                                                refine pure_ (i := 6) (N := some 84) (v := ?_) (a' := ?_) #[true, false, true, true, false, false, true, false, false, false, false, false, false, false, false] rfl rfl (any_of HT_.out (by kernel_rfl)) (fun _ _ _ h => h) (Or.inl ⟨by rfl, ?_⟩) ?_ ?_
                                                rotate_left
                                                · intro w'
                                                  go_simp
                                                  with_reducible rfl
                                                rotate_left
                                                · simp only [Act.put, List.setIfInBounds_toArray, List.set_cons_zero, List.set_cons_succ, i64_w, i32_w]
                                                  rfl
                                                refine pure_ (i := 7) (N := some 85) (v := ?_) (a' := ?_) #[true, false, true, true, false, false, true, true, false, false, false, false, false, false, false] rfl rfl (any_of HT_.out (by kernel_rfl)) (fun _ _ _ h => h) (Or.inl ⟨by rfl, ?_⟩) ?_ ?_
                                                rotate_left
                                                · intro w'
                                                  go_simp
                                                  with_reducible rfl
                                                rotate_left
                                                · simp only [Act.put, List.setIfInBounds_toArray, List.set_cons_zero, List.set_cons_succ, i64_w, i32_w]
                                                  rfl
                                                refine take_ (i := 1) (N := some 79) (v := ?_) (a' := ?_) #[true, true, true, true, false, false, true, true, false, false, false, false, false, false, false] rfl rfl (take_ofW HT_.out HW_.out (by kernel_rfl)) (fun _ _ _ h => h) (Or.inl ⟨by rfl, ?_⟩) hHeld ?_ ?_
                                                rotate_left
                                                · rintro w' ⟨s0, s1, s2, s3⟩
                                                  go_simp
                                                  with_reducible rfl
                                                rotate_left
                                                · simp only [Act.put, List.setIfInBounds_toArray, List.set_cons_zero, List.set_cons_succ, i64_w, i32_w]
                                                  rfl
                                                refine take_ (i := 4) (N := some 82) (v := ?_) (a' := ?_) #[true, true, true, true, true, false, true, true, false, false, false, false, false, false, false] rfl rfl (take_ofW HT_.out HW_.out (by kernel_rfl)) (fun _ _ _ h => h) (Or.inl ⟨by rfl, ?_⟩) hHeld ?_ ?_
                                                rotate_left
                                                · rintro w' ⟨s0, s1, s2, s3⟩
                                                  go_simp
                                                  with_reducible rfl
                                                rotate_left
                                                · simp only [Act.put, List.setIfInBounds_toArray, List.set_cons_zero, List.set_cons_succ, i64_w, i32_w]
                                                  rfl
                                                refine pure_ (i := 5) (N := some 83) (v := ?_) (a' := ?_) #[true, true, true, true, true, true, true, true, false, false, false, false, false, false, false] rfl rfl (any_of HT_.out (by kernel_rfl)) (fun _ _ _ h => h) (Or.inl ⟨by rfl, ?_⟩) ?_ ?_
                                                rotate_left
                                                · intro w'
                                                  go_simp
                                                  with_reducible rfl
                                                rotate_left
                                                · simp only [Act.put, List.setIfInBounds_toArray, List.set_cons_zero, List.set_cons_succ, i64_w, i32_w]
                                                  rfl
                                                refine one_ (i := 8) (N := some 86) #[true, true, true, true, true, true, true, true, true, false, false, false, false, false, false] rfl rfl (one_of HT_.out (by kernel_rfl)) (by decide) (fun K hK => ?_)
                                                refine goes_ Try.func33 (by kernel_rfl) rfl #[.slice A53 (((l0.take ((wrap64 (20 + (wrap64 (9 * x7_2)))) : Int).toNat).drop ((ji43) : Int).toNat).drop 1).length ((c0 - (ji43).toNat) - 1)] (by rfl) rfl rfl (by (try simp only [List.map_toArray, List.map_cons, List.map_nil]); first | done | (rw [hL2_]; rfl) | (rw [hL2_]; simp only [List.length_drop, List.length_take]; rfl) | (rw [show (((l0.take ((wrap64 (20 + (wrap64 (9 * x7_2)))) : Int).toNat).drop ((ji43) : Int).toNat).drop 1).length = (((l0.take ((wrap64 (20 + (wrap64 (9 * x7_2)))) : Int).toNat).drop ((ji43) : Int).toNat).length - 1) from List.length_drop] <;> rfl) | (simp only [hji43]; rfl) | rfl | (simp only [List.length_drop, List.length_take]; rfl)) ?_
                                                with_reducible refine (lombardref18_value.calls k2 _ _ (((l0.take ((wrap64 (20 + (wrap64 (9 * x7_2)))) : Int).toNat).drop ((ji43) : Int).toNat).drop 1) t295 _ ?side1 ?side2 A49.out).mono ?_
                                                (case side1 => repeat (first | exact (Kd.C_below HR294.out HB.out) | (with_reducible refine Kd.C_alloc ?_ _) | (with_reducible refine Kd.C_drewN ?_ _) | (with_reducible refine Kd.C_drew ?_)))
                                                (case side2 => exact HC294.out)
                                                rintro e w' ⟨rfl, ⟨nd, rfl⟩⟩
                                                refine ⟨_, rfl, ?_⟩
                                                refine hK.out _ _ ⟨(blk_cell BK291.out 0).trans rfl, (blk_cell BK291.out 1).trans rfl, (blk_cell BK291.out 2).trans rfl, ((HB.out.cell (World.block_lt_of_cell? w _ hw293_0)).trans hw293_0)⟩ (fun hHeld => ?_)
                                                clear hK K
                                                refine norm_ (a' := ?_) ?_ ?_
                                                rotate_left
                                                · show Act.put _ (some 86) _ = _
                                                  simp only [Act.put, List.setIfInBounds_toArray, List.set_cons_zero, List.set_cons_succ, i64_w, i32_w]
                                                  rfl
                                                refine pure_ (i := 9) (N := some 87) (v := ?_) (a' := ?_) #[true, true, true, true, true, true, true, true, true, true, false, false, false, false, false] rfl rfl (any_of HT_.out (by kernel_rfl)) (fun _ _ _ h => h) (Or.inl ⟨by rfl, ?_⟩) ?_ ?_
                                                rotate_left
                                                · intro w'
                                                  go_simp
                                                  with_reducible rfl
                                                rotate_left
                                                · simp only [Act.put, List.setIfInBounds_toArray, List.set_cons_zero, List.set_cons_succ, i64_w, i32_w]
                                                  rfl
                                                refine pure_ (i := 10) (N := some 88) (v := ?_) (a' := ?_) #[true, true, true, true, true, true, true, true, true, true, true, false, false, false, false] rfl rfl (any_of HT_.out (by kernel_rfl)) (fun _ _ _ h => h) (Or.inl ⟨by rfl, ?_⟩) ?_ ?_
                                                rotate_left
                                                · intro w'
                                                  go_simp
                                                  with_reducible rfl
                                                rotate_left
                                                · simp only [Act.put, List.setIfInBounds_toArray, List.set_cons_zero, List.set_cons_succ, i64_w, i32_w]
                                                  rfl
                                                refine one_ (i := 11) (N := some 89) #[true, true, true, true, true, true, true, true, true, true, true, true, false, false, false] rfl rfl (one_of HT_.out (by kernel_rfl)) (by decide) (fun K hK => ?_)
                                                refine value_ (w1 := ?_) (v := ?_) (by rfl) rfl ?_ ?_
                                                rotate_left 2
                                                · go_simp
                                                  constructor
                                                  · rfl
                                                  · rfl
                                                refine hK.out _ _ ⟨(blk_cell (blk_alloc BK291.out _) 0).trans rfl, (blk_cell (blk_alloc BK291.out _) 1).trans rfl, (blk_cell (blk_alloc BK291.out _) 2).trans rfl, (World.cell?_alloc_lt _ _ _ (World.block_lt_of_cell? _ _ (((HB.out.cell (World.block_lt_of_cell? w _ hw293_0)).trans hw293_0)))).trans (((HB.out.cell (World.block_lt_of_cell? w _ hw293_0)).trans hw293_0))⟩ (fun hHeld => ?_)
                                                clear hK K
                                                refine norm_ (a' := ?_) ?_ ?_
                                                rotate_left
                                                · show Act.put _ (some 89) _ = _
                                                  simp only [Act.put, List.setIfInBounds_toArray, List.set_cons_zero, List.set_cons_succ, i64_w, i32_w]
                                                  rfl
                                                refine one_ (i := 12) (N := some 90) #[true, true, true, true, true, true, true, true, true, true, true, true, true, false, false] rfl rfl (one_of HT_.out (by kernel_rfl)) (by decide) (fun K hK => ?_)
                                                refine Kd.R_append_step k59 (w0 := w) w.heap.size (by rfl) (.tmp 79) (.tmp 89) 22 59 (.agg #[(.int .i64 0), (.int .i64 0)]) 16 rfl Try.underlying22 info59 rfl (by decide) (by omega) u292002 x292002_2 (⟨wrap64 (rd ((l0.take ((wrap64 (20 + (wrap64 (9 * x7_2)))) : Int).toNat).drop ((ji43) : Int).toNat) 0), wrap64 (t295)⟩ : S59) [.int .i64 (wrap64 (rd ((l0.take ((wrap64 (20 + (wrap64 (9 * x7_2)))) : Int).toNat).drop ((ji43) : Int).toNat) 0)), .int .i64 (wrap64 (t295))] (fun _ => True) (fun _ => False) rfl rfl ?aP (fun _ hk => hk.elim) ?aF ?aO ?aB ?aS ?aL ?_
                                                (case aP => exact k59_mkM _ _ _ (⟨wrap64 (rd ((l0.take ((wrap64 (20 + (wrap64 (9 * x7_2)))) : Int).toNat).drop ((ji43) : Int).toNat) 0), wrap64 (t295)⟩ : S59))
                                                (case aB => exact (by repeat (first | (with_reducible first | exact HB.out | apply below_alloc | apply pw_below_drewN | apply below_drew1 | refine below_set ?_ GE279.out | refine below_set ?_ GE291.out) | exact HB.out)))
                                                (case aF => exact (fun _ _ => trivial))
                                                (case aO => exact (by (with_reducible repeat (first | apply Kd.R_alloc | apply Kd.R_drewN | apply Kd.R_drew)); exact HO_292002.out))
                                                (case aS => exact (below_size (by repeat (first | (with_reducible first | exact HB.out | apply below_alloc | apply pw_below_drewN | apply below_drew1 | refine below_set ?_ GE279.out | refine below_set ?_ GE291.out) | exact HB.out))))
                                                (case aL => have := LMc50.out; omega)
                                                intro v297 w54 ho hb hg hat
                                                rw [← Ny296.out] at ho
                                                have n0_ := Aside0.mk (blk_grown (g := gb279) (o := .cells #[.int .i64 0, .int .i64 0, .slice none 0 0] 24 (0, 0)) (by (with_reducible repeat (first | refine blk_drewN ?_ _ | refine blk_drew ?_ | refine blk_alloc ?_ _)); exact BK279.out) hg (Kd.R_ne HO_292002.out BK279.out (by decide)))
                                                have n1_ := Aside0.mk (blk_grown (g := gb291) (o := .cells #[.int .i64 (wrap64 (t288)), .int .i64 (wrap64 (t290)), u292002] 24 (0, 0)) (by (with_reducible repeat (first | refine blk_drewN ?_ _ | refine blk_drew ?_ | refine blk_alloc ?_ _)); exact BK291.out) hg (Kd.R_ne HO_292002.out BK291.out (by decide)))
                                                have n2_ := Aside0.mk (hb)
                                                have n3_ := Aside0.mk (ho)
                                                clear BK279
                                                clear BK291
                                                clear HB
                                                clear HO_292002
                                                have BK279 := n0_
                                                have BK291 := n1_
                                                have HB := n2_
                                                have HO298 := n3_
                                                clear n0_ n1_ n2_ n3_
                                                clear ho hb hg hat
                                                obtain ⟨Ao55, co55, eo55⟩ := Kd.R_slice HO298.out
                                                (first | subst eo55 | (injection eo55 with f1_ f2_ f3_; have f4_ := f1_.symm; have f5_ := f3_.symm; clear f1_ f2_ f3_; subst f4_; subst f5_))
                                                refine hK.out _ _ ⟨(blk_cell BK291.out 0).trans rfl, (blk_cell BK291.out 1).trans rfl, (blk_cell BK291.out 2).trans rfl, ((HB.out.cell (World.block_lt_of_cell? w _ hw293_0)).trans hw293_0)⟩ (fun hHeld => ?_)
                                                clear hK K
                                                refine norm_ (a' := ?_) ?_ ?_
                                                rotate_left
                                                · show Act.put _ (some 90) _ = _
                                                  simp only [Act.put, List.setIfInBounds_toArray, List.set_cons_zero, List.set_cons_succ, i64_w, i32_w]
                                                  rfl
                                                refine pure_ (i := 13) (N := some 91) (v := ?_) (a' := ?_) #[true, true, true, true, true, true, true, true, true, true, true, true, true, true, false] rfl rfl (any_of HT_.out (by kernel_rfl)) (fun _ _ _ h => h) (Or.inl ⟨by rfl, ?_⟩) ?_ ?_
                                                rotate_left
                                                · intro w'
                                                  go_simp
                                                  with_reducible rfl
                                                rotate_left
                                                · simp only [Act.put, List.setIfInBounds_toArray, List.set_cons_zero, List.set_cons_succ, i64_w, i32_w]
                                                  rfl
                                                refine last_ (i := 14) (N := none) #[true, true, true, true, true, true, true, true, true, true, true, true, true, true, true] rfl rfl (one_of HT_.out (by kernel_rfl)) (by decide) (fun K hK => ?_)
                                                have hs56 : w54.cell? ⟨gb291, 2, none⟩ = some (u292002) := (blk_cell BK291.out 2).trans rfl
                                                have hfs56 := blk_frozen BK291.out 2
                                                have hns56_0 := NB279_291.out
                                                have hms56_0 := NB291_279.out
                                                refine skip_ (w1 := ?_) (by rfl) rfl ?_ ?_
                                                rotate_left
                                                · go_simp
                                                  rfl
                                                refine hK.out _ _ ?_
                                                clear hK K
                                                refine done_ (done_of HT_.out (by kernel_rfl)) ?_
                                                try go_wp2
                                                go_roundg k2
                                                case measure => have := HJ4.out; have := HK2.out; omega
                                                case rel => exact ⟨(wrap64 (x7_2 + 1)), (y296), (.slice Ao55 y296.length co55), (by first | rfl | (simp; done) | (simp [*]; done)), H', ⟨by have := HJ4.out; have := HK2.out; omega⟩, ⟨by (with_reducible repeat (first | apply Kd.R_alloc | apply Kd.R_drewN | apply Kd.R_drew)); exact Kd.R_mono (Kd.R_far (p := ⟨gb291, 2, none⟩) (Kd.R_types HO298.out BK291.out (by decide)) (fun _ hk => hk.2) (.slice Ao55 y296.length co55)) (fun _ hk => trivial)⟩, ⟨by (with_reducible repeat (first | refine blk_drewN ?_ _ | refine blk_drew ?_ | refine blk_alloc ?_ _)); refine blk_far ?_ NB279_291.out _; (with_reducible repeat (first | refine blk_drewN ?_ _ | refine blk_drew ?_ | refine blk_alloc ?_ _)); exact BK279.out⟩, ⟨by (with_reducible repeat (first | refine blk_drewN ?_ _ | refine blk_drew ?_ | refine blk_alloc ?_ _)); refine blk_put (cs := #[.int .i64 (wrap64 (t288)), .int .i64 (wrap64 (t290)), u292002]) ?_ 2 _ rfl; (with_reducible repeat (first | refine blk_drewN ?_ _ | refine blk_drew ?_ | refine blk_alloc ?_ _)); exact BK291.out⟩, ⟨by repeat (first | (with_reducible first | exact HB.out | apply below_alloc | apply pw_below_drewN | apply below_drew1 | refine below_set ?_ GE279.out | refine below_set ?_ GE291.out) | exact HB.out)⟩⟩
                                              · rw [if_neg c50] at H
                                                exact absurd H (by simp)
                                            · rw [if_neg c48] at H
                                              exact absurd H (by simp)
                                          · rw [if_neg c47] at H
                                            exact absurd H (by simp)
                                        · rw [if_neg c46] at H
                                          exact absurd H (by simp)
                                      · rw [if_neg c45] at H
                                        exact absurd H (by simp)
                                    · rw [if_neg c44] at H
                                      exact absurd H (by simp)
                                  · rw [if_neg c42] at H
                                    have c42b0 : decide (x7_2 < (wrap64 (rd l0 10))) = false := decide_eq_false c42
                                    clear c42
                                    replace H := Option.bind_eq_some_iff.mp H
                                    obtain ⟨t299, A570, H⟩ := H
                                    replace H : (if t299 = 0 then (some ((wrap64 (t288)), (wrap64 (t290)), x292002_2, 0)) else (some (0, 0, ([] : List (S59)), 6))) = some (r1, r2, r3, r4) := H
                                    have A57 := Aside0.mk A570
                                    clear A570
                                    by_cases c58 : t299 = 0
                                    · rw [if_pos c58] at H
                                      have c58b0 : (t299 == 0) = true := beq_iff_eq.mpr c58
                                      have c58b1 : (t299 != 0) = false := bne_eq_false_iff_eq.mpr c58
                                      clear c58
                                      simp only [Option.some.injEq, Prod.mk.injEq] at H
                                      obtain ⟨rfl, rfl, rfl, rfl⟩ := H
                                      have hnb59 := NB291_279.out
                                      have hnc59 := NB279_291.out
                                      have hcz60_0 : wr.cell? ⟨gb291, 0, none⟩ = some (.int .i64 (wrap64 (t288))) := (blk_cell BK291.out 0).trans rfl
                                      have hcz60_1 : wr.cell? ⟨gb291, 1, none⟩ = some (.int .i64 (wrap64 (t290))) := (blk_cell BK291.out 1).trans rfl
                                      have hcz60_2 : wr.cell? ⟨gb291, 2, none⟩ = some (u292002) := (blk_cell BK291.out 2).trans rfl
                                      have hfz60_0 := blk_frozen BK291.out 0
                                      have hfz60_1 := blk_frozen BK291.out 1
                                      have hfz60_2 := blk_frozen BK291.out 2
                                      obtain ⟨Ao61, co61, eo61⟩ := Kd.R_slice HO_292002.out
                                      subst eo61
                                      go_wp2_with (first | ((with_reducible refine gate_callee (f := 15) rfl ?_); refine goesL_ (some 93) rfl rfl Try.func15 (by kernel_rfl) rfl #[.agg #[.int .i64 (wrap64 (t288)), .int .i64 (wrap64 (t290)), .slice Ao61 x292002_2.length co61]] rfl (by (try simp only [List.map_toArray, List.map_cons, List.map_nil]); first | done | rfl | (simp only [List.length_drop, List.length_take]; rfl)) ?_; (with_reducible refine (lombardref18_Check.calls k2 (wrap64 (t288)) (wrap64 (t290)) _ _ x292002_2 t299 _ ?side1 ?side2 A57.out).mono ?_); (case side1 => repeat (first | exact (Kd.R_reads' HO_292002.out).2.2 | (with_reducible refine Kd.C_alloc ?_ _) | (with_reducible refine Kd.C_drewN ?_ _) | (with_reducible refine Kd.C_drew ?_))); (case side2 => exact (Kd.R_reads' HO_292002.out).2.1); rintro e w62 ⟨rfl, hb⟩; refine ⟨_, rfl, ?_⟩; have n0_ := Aside0.mk (Kd.R_below (by (with_reducible repeat (first | apply Kd.R_alloc | apply Kd.R_drewN | apply Kd.R_drew)); exact HO_292002.out) hb); have n1_ := Aside0.mk (blk_below (g := gb279) (o := .cells #[.int .i64 0, .int .i64 0, .slice none 0 0] 24 (0, 0)) (by (with_reducible repeat (first | refine blk_drewN ?_ _ | refine blk_drew ?_ | refine blk_alloc ?_ _)); exact BK279.out) hb); have n2_ := Aside0.mk (blk_below (g := gb291) (o := .cells #[.int .i64 (wrap64 (t288)), .int .i64 (wrap64 (t290)), .slice Ao61 x292002_2.length co61] 24 (0, 0)) (by (with_reducible repeat (first | refine blk_drewN ?_ _ | refine blk_drew ?_ | refine blk_alloc ?_ _)); exact BK291.out) hb); have n3_ := Aside0.mk (below_step (by repeat (first | (with_reducible first | exact HB.out | apply below_alloc | apply pw_below_drewN | apply below_drew1 | refine below_set ?_ GE279.out | refine below_set ?_ GE291.out) | exact HB.out)) hb); clear HO_292002; clear BK279; clear BK291; clear HB; have HO_292002 := n0_; have BK279 := n1_; have BK291 := n2_; have HB := n3_; clear n0_ n1_ n2_ n3_; (try clear hb); (try clear hb2); (try clear hk); (try clear hi); have hcz63_0 : w62.cell? ⟨gb291, 0, none⟩ = some (.int .i64 (wrap64 (t288))) := (blk_cell BK291.out 0).trans rfl; have hcz63_1 : w62.cell? ⟨gb291, 1, none⟩ = some (.int .i64 (wrap64 (t290))) := (blk_cell BK291.out 1).trans rfl; have hcz63_2 : w62.cell? ⟨gb291, 2, none⟩ = some (.slice Ao61 x292002_2.length co61) := (blk_cell BK291.out 2).trans rfl; have hfz63_0 := blk_frozen BK291.out 0; have hfz63_1 := blk_frozen BK291.out 1; have hfz63_2 := blk_frozen BK291.out 2; have hcz64_0 : w62.cell? ⟨gb279, 0, none⟩ = some (.int .i64 0) := (blk_cell BK279.out 0).trans rfl; have hcz64_1 : w62.cell? ⟨gb279, 1, none⟩ = some (.int .i64 0) := (blk_cell BK279.out 1).trans rfl; have hcz64_2 : w62.cell? ⟨gb279, 2, none⟩ = some (.slice none 0 0) := (blk_cell BK279.out 2).trans rfl; have hfz64_0 := blk_frozen BK279.out 0; have hfz64_1 := blk_frozen BK279.out 1; have hfz64_2 := blk_frozen BK279.out 2))
                                      refine bodyPost_ret (results_ct rfl _ _ gb279 24 #[.int .i64 (wrap64 (t288)), .int .i64 (wrap64 (t290)), .slice Ao61 x292002_2.length co61] (0, 0) _ rfl (by (with_reducible repeat (first | refine blk_drewN ?_ _ | refine blk_drew ?_ | refine blk_alloc ?_ _)); refine blk_put (cs := #[.int .i64 (wrap64 (t288)), .int .i64 (wrap64 (t290)), .slice none 0 0]) ?_ 2 _ rfl; (with_reducible repeat (first | refine blk_drewN ?_ _ | refine blk_drew ?_ | refine blk_alloc ?_ _)); refine blk_put (cs := #[.int .i64 (wrap64 (t288)), .int .i64 0, .slice none 0 0]) ?_ 1 _ rfl; (with_reducible repeat (first | refine blk_drewN ?_ _ | refine blk_drew ?_ | refine blk_alloc ?_ _)); refine blk_put (cs := #[.int .i64 0, .int .i64 0, .slice none 0 0]) ?_ 0 _ rfl; (with_reducible repeat (first | refine blk_drewN ?_ _ | refine blk_drew ?_ | refine blk_alloc ?_ _)); exact BK279.out) Try.underlying24 rfl (by kernel_rfl)) rfl ?_
                                      exact ⟨_, by first | rfl | (simp [errW_none, errW_some] <;> rfl) | (simp only [← hji17]; first | rfl | (simp [errW_none, errW_some] <;> rfl)) | (simp [*, errW_none, errW_some] <;> rfl), by (with_reducible repeat (first | apply Kd.R_alloc | apply Kd.R_drewN | apply Kd.R_drew)); exact Kd.R_mono (Kd.R_far (p := ⟨gb279, 2, none⟩) (Kd.R_far (p := ⟨gb279, 1, none⟩) (Kd.R_far (p := ⟨gb279, 0, none⟩) (Kd.R_types HO_292002.out BK279.out (by decide)) (fun _ hk => hk.2) (.int .i64 (wrap64 (t288)))) (fun _ hk => hk.2) (.int .i64 (wrap64 (t290)))) (fun _ hk => hk.2) (.slice Ao61 x292002_2.length co61)) (fun _ hk => trivial), by repeat (first | (with_reducible first | exact HB.out | apply below_alloc | apply pw_below_drewN | apply below_drew1 | refine below_set ?_ GE279.out | refine below_set ?_ GE291.out) | exact HB.out)⟩
                                    · rw [if_neg c58] at H
                                      have c58b0 : (t299 == 0) = false := beq_eq_false_iff_ne.mpr c58
                                      have c58b1 : (t299 != 0) = true := bne_iff_ne.mpr c58
                                      simp only [Option.some.injEq, Prod.mk.injEq] at H
                                      obtain ⟨rfl, rfl, rfl, rfl⟩ := H
                                      have hnb65 := NB291_279.out
                                      have hnc65 := NB279_291.out
                                      have hcz66_0 : wr.cell? ⟨gb291, 0, none⟩ = some (.int .i64 (wrap64 (t288))) := (blk_cell BK291.out 0).trans rfl
                                      have hcz66_1 : wr.cell? ⟨gb291, 1, none⟩ = some (.int .i64 (wrap64 (t290))) := (blk_cell BK291.out 1).trans rfl
                                      have hcz66_2 : wr.cell? ⟨gb291, 2, none⟩ = some (u292002) := (blk_cell BK291.out 2).trans rfl
                                      have hfz66_0 := blk_frozen BK291.out 0
                                      have hfz66_1 := blk_frozen BK291.out 1
                                      have hfz66_2 := blk_frozen BK291.out 2
                                      obtain ⟨Ao67, co67, eo67⟩ := Kd.R_slice HO_292002.out
                                      subst eo67
                                      go_wp2_with (first | ((with_reducible refine gate_callee (f := 15) rfl ?_); refine goesL_ (some 93) rfl rfl Try.func15 (by kernel_rfl) rfl #[.agg #[.int .i64 (wrap64 (t288)), .int .i64 (wrap64 (t290)), .slice Ao67 x292002_2.length co67]] rfl (by (try simp only [List.map_toArray, List.map_cons, List.map_nil]); first | done | rfl | (simp only [List.length_drop, List.length_take]; rfl)) ?_; (with_reducible refine (lombardref18_Check.calls k2 (wrap64 (t288)) (wrap64 (t290)) _ _ x292002_2 t299 _ ?side1 ?side2 A57.out).mono ?_); (case side1 => repeat (first | exact (Kd.R_reads' HO_292002.out).2.2 | (with_reducible refine Kd.C_alloc ?_ _) | (with_reducible refine Kd.C_drewN ?_ _) | (with_reducible refine Kd.C_drew ?_))); (case side2 => exact (Kd.R_reads' HO_292002.out).2.1); rintro e w68 ⟨rfl, hb⟩; refine ⟨_, rfl, ?_⟩; have n0_ := Aside0.mk (Kd.R_below (by (with_reducible repeat (first | apply Kd.R_alloc | apply Kd.R_drewN | apply Kd.R_drew)); exact HO_292002.out) hb); have n1_ := Aside0.mk (blk_below (g := gb279) (o := .cells #[.int .i64 0, .int .i64 0, .slice none 0 0] 24 (0, 0)) (by (with_reducible repeat (first | refine blk_drewN ?_ _ | refine blk_drew ?_ | refine blk_alloc ?_ _)); exact BK279.out) hb); have n2_ := Aside0.mk (blk_below (g := gb291) (o := .cells #[.int .i64 (wrap64 (t288)), .int .i64 (wrap64 (t290)), .slice Ao67 x292002_2.length co67] 24 (0, 0)) (by (with_reducible repeat (first | refine blk_drewN ?_ _ | refine blk_drew ?_ | refine blk_alloc ?_ _)); exact BK291.out) hb); have n3_ := Aside0.mk (below_step (by repeat (first | (with_reducible first | exact HB.out | apply below_alloc | apply pw_below_drewN | apply below_drew1 | refine below_set ?_ GE279.out | refine below_set ?_ GE291.out) | exact HB.out)) hb); clear HO_292002; clear BK279; clear BK291; clear HB; have HO_292002 := n0_; have BK279 := n1_; have BK291 := n2_; have HB := n3_; clear n0_ n1_ n2_ n3_; (try clear hb); (try clear hb2); (try clear hk); (try clear hi); have hcz69_0 : w68.cell? ⟨gb279, 0, none⟩ = some (.int .i64 0) := (blk_cell BK279.out 0).trans rfl; have hcz69_1 : w68.cell? ⟨gb279, 1, none⟩ = some (.int .i64 0) := (blk_cell BK279.out 1).trans rfl; have hcz69_2 : w68.cell? ⟨gb279, 2, none⟩ = some (.slice none 0 0) := (blk_cell BK279.out 2).trans rfl; have hfz69_0 := blk_frozen BK279.out 0; have hfz69_1 := blk_frozen BK279.out 1; have hfz69_2 := blk_frozen BK279.out 2))
                                      refine bodyPost_ret (results_ct rfl _ _ gb279 24 #[.int .i64 0, .int .i64 0, .slice none 0 0] (0, 0) _ rfl (by (with_reducible repeat (first | refine blk_drewN ?_ _ | refine blk_drew ?_ | refine blk_alloc ?_ _)); refine blk_put (cs := #[.int .i64 0, .int .i64 0, .slice none 0 0]) ?_ 2 _ rfl; (with_reducible repeat (first | refine blk_drewN ?_ _ | refine blk_drew ?_ | refine blk_alloc ?_ _)); refine blk_put (cs := #[.int .i64 0, .int .i64 0, .slice none 0 0]) ?_ 1 _ rfl; (with_reducible repeat (first | refine blk_drewN ?_ _ | refine blk_drew ?_ | refine blk_alloc ?_ _)); refine blk_put (cs := #[.int .i64 0, .int .i64 0, .slice none 0 0]) ?_ 0 _ rfl; (with_reducible repeat (first | refine blk_drewN ?_ _ | refine blk_drew ?_ | refine blk_alloc ?_ _)); exact BK279.out) Try.underlying24 rfl (by kernel_rfl)) rfl ?_
                                      exact ⟨_, by first | rfl | (simp [errW_none, errW_some] <;> rfl) | (simp only [← hji17]; first | rfl | (simp [errW_none, errW_some] <;> rfl)) | (simp [*, errW_none, errW_some] <;> rfl), by first | exact Kd.R_nil _ _ _ _ _ | exact Kd.N_nil _ _ _ _ _ | exact Kd.V_nil _ _ _ _ _ | exact Kd.Q_nil _ _ _ _ _ | exact Kd.S_nil _ _ _ _ _, by repeat (first | (with_reducible first | exact HB.out | apply below_alloc | apply pw_below_drewN | apply below_drew1 | refine below_set ?_ GE279.out | refine below_set ?_ GE291.out) | exact HB.out)⟩
                            · rw [if_neg c29] at H
                              exact absurd H (by simp)
                          · rw [if_neg c28] at H
                            exact absurd H (by simp)
                        · rw [if_neg c26] at H
                          exact absurd H (by simp)
                      · rw [if_neg c25] at H
                        exact absurd H (by simp)
                    · rw [if_neg c24] at H
                      have c24b0 : (t284 == (IntKind.u64.wrap (t286))) = false := beq_eq_false_iff_ne.mpr c24
                      have c24b1 : (t284 != (IntKind.u64.wrap (t286))) = true := bne_iff_ne.mpr c24
                      simp only [Option.some.injEq, Prod.mk.injEq] at H
                      obtain ⟨rfl, rfl, rfl, rfl⟩ := H
                      have p282 : 0 ≤ (10 : Int) := (by omega)
                      have q282 : 10 < (l0.length : Int) := of_decide_eq_true (by first | (with_reducible assumption) | assumption)
                      obtain ⟨ad282, e282, hx282_0⟩ := Kd.at_int HR0.out 10 p282 q282
                      cases e282
                      (try simp only [show (10 : Int).toNat = 10 from rfl, Nat.reduceMul, Nat.reduceEqDiff, Go.Addr.add, ↓reduceIte] at hx282_0)
                      have qi282 : (10 < l0.length) = True := eq_true (by omega)
                      (try rw [show ((10 : Int)).toNat = 10 from rfl] at hx282_0)
                      replace hx282_0 := (HB.out.cell (World.block_lt_of_cell? w _ hx282_0)).trans hx282_0
                      replace p282 := eq_true p282
                      replace q282 := eq_true q282
                      try go_wp2
                      have n0_ := Aside0.mk (blk_drew BK279.out)
                      have n1_ := Aside0.mk (below_drew1 HB.out)
                      clear BK279
                      clear HB
                      have BK279 := n0_
                      have HB := n1_
                      clear n0_ n1_
                      obtain ⟨i071, hi071, _, hsz71, _⟩ := info_parts info5
                      obtain ⟨A71, hcut71, hA71, hC71⟩ := print_drop_of (P := Try.prog) (Value.int .u8) 0 25 5 .i64 Try.underlying25 hi071 hsz71 (some ad282) c0 l0 (ji17) (of_decide_eq_true (by first | (with_reducible assumption) | assumption)) (of_decide_eq_true (by first | (with_reducible assumption) | assumption)) HC0.out
                      have HR283 := Aside0.mk (Kd.C_of_reads (h1 := fun _ => rfl) (hA71 _ (Kd.reads_of_C HR0.out)))
                      have HC283 := Aside0.mk hC71
                      clear hA71 hC71 hi071 hsz71
                      obtain ⟨i072, hi072, _, hsz72, _⟩ := info_parts info5
                      obtain ⟨hcut72, hA72, hC72⟩ := print_take_of (P := Try.prog) (Value.int .u8) 0 25 5 .i64 Try.underlying25 hi072 hsz72 (some ad282) c0 l0 (ji17) (of_decide_eq_true (by first | (with_reducible assumption) | assumption)) (of_decide_eq_true (by first | (with_reducible assumption) | assumption)) HC0.out
                      have HR285 := Aside0.mk (Kd.C_of_reads (h1 := fun _ => rfl) (hA72 _ (Kd.reads_of_C HR0.out)))
                      have HC285 := Aside0.mk hC72
                      clear hA72 hC72 hi072 hsz72
                      refine start_ (n := 10) (S := fun w' => True) (ds := []) #[false, false, false, false, false, false, false, false, false, false] (by kernel_rfl) rfl rfl trivial (fun hHeld => ?_); refine with_tabW lombardref18_Get.tab11 lombardref18_Get.bits11 (fun HT_ HW_ => ?_)
                      generalize wc.drew = w70 at BK279 HB HR283 HR285 hHeld ⊢
                      refine pure_ (i := 0) (N := some 45) (v := ?_) (a' := ?_) #[true, false, false, false, false, false, false, false, false, false] rfl rfl (any_of HT_.out (by kernel_rfl)) (fun _ _ _ h => h) (Or.inl ⟨by rfl, ?_⟩) ?_ ?_
                      rotate_left
                      · intro w'
                        go_simp
                        with_reducible rfl
                      rotate_left
                      · simp only [Act.put, List.setIfInBounds_toArray, List.set_cons_zero, List.set_cons_succ, i64_w, i32_w]
                        rfl
                      refine pure_ (i := 1) (N := some 46) (v := ?_) (a' := ?_) #[true, true, false, false, false, false, false, false, false, false] rfl rfl (any_of HT_.out (by kernel_rfl)) (fun _ _ _ h => h) (Or.inl ⟨by rfl, ?_⟩) ?_ ?_
                      rotate_left
                      · intro w'
                        go_simp
                        with_reducible rfl
                      rotate_left
                      · simp only [Act.put, List.setIfInBounds_toArray, List.set_cons_zero, List.set_cons_succ, i64_w, i32_w]
                        rfl
                      refine pure_ (i := 2) (N := some 47) (v := ?_) (a' := ?_) #[true, true, true, false, false, false, false, false, false, false] rfl rfl (any_of HT_.out (by kernel_rfl)) (fun _ _ _ h => h) (Or.inl ⟨by rfl, ?_⟩) ?_ ?_
                      rotate_left
                      · intro w'
                        go_simp
                        with_reducible rfl
                      rotate_left
                      · simp only [Act.put, List.setIfInBounds_toArray, List.set_cons_zero, List.set_cons_succ, i64_w, i32_w]
                        rfl
                      refine pure_ (i := 4) (N := some 49) (v := ?_) (a' := ?_) #[true, true, true, false, true, false, false, false, false, false] rfl rfl (any_of HT_.out (by kernel_rfl)) (fun _ _ _ h => h) (Or.inl ⟨by rfl, ?_⟩) ?_ ?_
                      rotate_left
                      · intro w'
                        go_simp
                        with_reducible rfl
                      rotate_left
                      · simp only [Act.put, List.setIfInBounds_toArray, List.set_cons_zero, List.set_cons_succ, i64_w, i32_w]
                        rfl
                      refine pure_ (i := 5) (N := some 50) (v := ?_) (a' := ?_) #[true, true, true, false, true, true, false, false, false, false] rfl rfl (any_of HT_.out (by kernel_rfl)) (fun _ _ _ h => h) (Or.inl ⟨by rfl, ?_⟩) ?_ ?_
                      rotate_left
                      · intro w'
                        go_simp
                        with_reducible rfl
                      rotate_left
                      · simp only [Act.put, List.setIfInBounds_toArray, List.set_cons_zero, List.set_cons_succ, i64_w, i32_w]
                        rfl
                      refine pure_ (i := 6) (N := some 51) (v := ?_) (a' := ?_) #[true, true, true, false, true, true, true, false, false, false] rfl rfl (any_of HT_.out (by kernel_rfl)) (fun _ _ _ h => h) (Or.inl ⟨by rfl, ?_⟩) ?_ ?_
                      rotate_left
                      · intro w'
                        go_simp
                        with_reducible rfl
                      rotate_left
                      · simp only [Act.put, List.setIfInBounds_toArray, List.set_cons_zero, List.set_cons_succ, i64_w, i32_w]
                        rfl
                      refine one_ (i := 3) (N := some 48) #[true, true, true, true, true, true, true, false, false, false] rfl rfl (one_of HT_.out (by kernel_rfl)) (by decide) (fun K hK => ?_)
                      refine goes_ Try.func33 (by kernel_rfl) rfl #[.slice A71 (l0.drop ((ji17) : Int).toNat).length (c0 - (ji17).toNat)] (by rfl) rfl rfl (by (try simp only [List.map_toArray, List.map_cons, List.map_nil]); first | done | (rw [show (l0.drop ((ji17) : Int).toNat).length = (l0.length - (ji17).toNat) from List.length_drop] <;> rfl) | (simp only [hji17]; rfl) | rfl | (simp only [List.length_drop, List.length_take]; rfl)) ?_
                      with_reducible refine (lombardref18_value.calls kj4 _ _ (l0.drop ((ji17) : Int).toNat) t284 _ ?side1 ?side2 A20.out).mono ?_
                      (case side1 => repeat (first | exact (Kd.C_below HR283.out HB.out) | (with_reducible refine Kd.C_alloc ?_ _) | (with_reducible refine Kd.C_drewN ?_ _) | (with_reducible refine Kd.C_drew ?_)))
                      (case side2 => exact HC283.out)
                      rintro e w' ⟨rfl, ⟨nd, rfl⟩⟩
                      refine ⟨_, rfl, ?_⟩
                      refine hK.out _ _ trivial (fun hHeld => ?_)
                      clear hK K
                      refine norm_ (a' := ?_) ?_ ?_
                      rotate_left
                      · show Act.put _ (some 48) _ = _
                        simp only [Act.put, List.setIfInBounds_toArray, List.set_cons_zero, List.set_cons_succ, i64_w, i32_w]
                        rfl
                      refine one_ (i := 7) (N := some 52) #[true, true, true, true, true, true, true, true, false, false] rfl rfl (one_of HT_.out (by kernel_rfl)) (by decide) (fun K hK => ?_)
                      refine goes_ Try.func17 (by kernel_rfl) rfl #[.slice (some ad282) (l0.take ((ji17) : Int).toNat).length c0] (by rfl) rfl rfl (by (try simp only [List.map_toArray, List.map_cons, List.map_nil]); first | done | (rw [show (l0.take ((ji17) : Int).toNat).length = (ji17).toNat from (by rw [List.length_take]; have h_ : ((ji17) : Int) ≤ (l0.length : Int) := of_decide_eq_true (by first | (with_reducible assumption) | assumption); omega)] <;> rfl) | (simp only [hji17]; rfl) | rfl | (simp only [List.length_drop, List.length_take]; rfl)) ?_
                      with_reducible refine (lombardref18_Sum.calls kj4 _ _ (l0.take ((ji17) : Int).toNat) t286 _ ?side1 ?side2 A23.out).mono ?_
                      (case side1 => repeat (first | exact (Kd.C_below HR285.out (by repeat (first | (with_reducible first | exact HB.out | apply below_alloc | apply pw_below_drewN | apply below_drew1 | refine below_set ?_ GE279.out) | exact HB.out))) | (with_reducible refine Kd.C_alloc ?_ _) | (with_reducible refine Kd.C_drewN ?_ _) | (with_reducible refine Kd.C_drew ?_)))
                      (case side2 => exact HC285.out)
                      rintro e w' ⟨rfl, ⟨nd, rfl⟩⟩
                      refine ⟨_, rfl, ?_⟩
                      refine hK.out _ _ trivial (fun hHeld => ?_)
                      clear hK K
                      refine norm_ (a' := ?_) ?_ ?_
                      rotate_left
                      · show Act.put _ (some 52) _ = _
                        simp only [Act.put, List.setIfInBounds_toArray, List.set_cons_zero, List.set_cons_succ, i64_w, i32_w]
                        rfl
                      refine pure_ (i := 8) (N := some 53) (v := ?_) (a' := ?_) #[true, true, true, true, true, true, true, true, true, false] rfl rfl (any_of HT_.out (by kernel_rfl)) (fun _ _ _ h => h) (Or.inl ⟨by rfl, ?_⟩) ?_ ?_
                      rotate_left
                      · intro w'
                        go_simp
                        with_reducible rfl
                      rotate_left
                      · simp only [Act.put, List.setIfInBounds_toArray, List.set_cons_zero, List.set_cons_succ, i64_w, i32_w]
                        rfl
                      refine pure_ (i := 9) (N := some 54) (v := ?_) (a' := ?_) #[true, true, true, true, true, true, true, true, true, true] rfl rfl (any_of HT_.out (by kernel_rfl)) (fun _ _ _ h => h) (Or.inl ⟨by rfl, ?_⟩) ?_ ?_
                      rotate_left
                      · intro w'
                        go_simp
                        with_reducible rfl
                      rotate_left
                      · simp only [Act.put, List.setIfInBounds_toArray, List.set_cons_zero, List.set_cons_succ, i64_w, i32_w]
                        rfl
                      refine done_ (done_of HT_.out (by kernel_rfl)) ?_
                      have hcz73_0 : w70.cell? ⟨gb279, 0, none⟩ = some (.int .i64 0) := (blk_cell BK279.out 0).trans rfl
                      have hcz73_1 : w70.cell? ⟨gb279, 1, none⟩ = some (.int .i64 0) := (blk_cell BK279.out 1).trans rfl
                      have hcz73_2 : w70.cell? ⟨gb279, 2, none⟩ = some (.slice none 0 0) := (blk_cell BK279.out 2).trans rfl
                      have hfz73_0 := blk_frozen BK279.out 0
                      have hfz73_1 := blk_frozen BK279.out 1
                      have hfz73_2 := blk_frozen BK279.out 2
                      try go_wp2
                      refine bodyPost_ret (results_ct rfl _ _ gb279 24 #[.int .i64 0, .int .i64 0, .slice none 0 0] (0, 0) _ rfl (by (with_reducible repeat (first | refine blk_drewN ?_ _ | refine blk_drew ?_ | refine blk_alloc ?_ _)); refine blk_put (cs := #[.int .i64 0, .int .i64 0, .slice none 0 0]) ?_ 2 _ rfl; (with_reducible repeat (first | refine blk_drewN ?_ _ | refine blk_drew ?_ | refine blk_alloc ?_ _)); refine blk_put (cs := #[.int .i64 0, .int .i64 0, .slice none 0 0]) ?_ 1 _ rfl; (with_reducible repeat (first | refine blk_drewN ?_ _ | refine blk_drew ?_ | refine blk_alloc ?_ _)); refine blk_put (cs := #[.int .i64 0, .int .i64 0, .slice none 0 0]) ?_ 0 _ rfl; (with_reducible repeat (first | refine blk_drewN ?_ _ | refine blk_drew ?_ | refine blk_alloc ?_ _)); exact BK279.out) Try.underlying24 rfl (by kernel_rfl)) rfl ?_
                      exact ⟨_, by first | rfl | (simp [errW_none, errW_some] <;> rfl) | (simp only [← hji17]; first | rfl | (simp [errW_none, errW_some] <;> rfl)) | (simp [*, errW_none, errW_some] <;> rfl), by first | exact Kd.R_nil _ _ _ _ _ | exact Kd.N_nil _ _ _ _ _ | exact Kd.V_nil _ _ _ _ _ | exact Kd.Q_nil _ _ _ _ _ | exact Kd.S_nil _ _ _ _ _, by repeat (first | (with_reducible first | exact HB.out | apply below_alloc | apply pw_below_drewN | apply below_drew1 | refine below_set ?_ GE279.out) | exact HB.out)⟩
                  · rw [if_neg c19] at H
                    exact absurd H (by simp)
                · rw [if_neg c18] at H
                  exact absurd H (by simp)
          · rw [if_neg c12] at H
            exact absurd H (by simp)

end Go.Proofs.Ytepgponpnijonaa.Print
