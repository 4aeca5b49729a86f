-- written by this session's program wip/hybrid.py over the kit's printer, and by hand. Not trusted: Lean checks it.
import Derived.Test.YtepgponpnijonaaPrint0
import Derived.Test.YtepgponpnijonaaPrint7
import Derived.Test.YtepgponpnijonaaPrint9
import Derived.Test.YtepgponpnijonaaPrint11
namespace Go.Proofs.Ytepgponpnijonaa.Print
open Go.RowKit Go.Proofs.YtepgponpnijonaaW.PrintWords Go.Proofs.YtepgponpnijonaaW.PrintLast Go.Proofs.YtepgponpnijonaaW.PrintMore
attribute [local go_sem] max2_int min2_int max_two min_two max_three min_three max_four min_four   -- for this text's walks alone
set_option linter.unusedVariables false
set_option linter.unusedSimpArgs false

/-! ### batch_Get: function 18 -/
mutual
def batch_Get.j0 : Nat → List Int → Bool → Option (Int × Int × (List (S53)) × Int)
  | 0, _, _ => none
  | k + 1, x0, x21 => if x21 = true then (some (0, 0, ([] : List (S53)), 6)) else (if 10 < (x0.length : Int) then (if 0 ≤ (wrap64 ((x0.length : Int) - 4)) then (if (wrap64 ((x0.length : Int) - 4)) ≤ (x0.length : Int) then ((some (x0.take ((wrap64 ((x0.length : Int) - 4)) : Int).toNat : List Int)).bind fun y149 => (if (x0.length : Int) < (wrap64 (15 + (wrap64 (9 * (wrap64 (rd x0 10)))))) then (some (0, 0, ([] : List (S53)), 14)) else (if (x0.length : Int) > (wrap64 (15 + (wrap64 (9 * (wrap64 (rd x0 10)))))) then (some (0, 0, ([] : List (S53)), 6)) else (if 0 ≤ (y149.length : Int) then (if (y149.length : Int) ≤ (x0.length : Int) then ((batch_get_uint32.f k (x0.drop ((y149.length : Int) : Int).toNat)).bind fun t159 => ((batch_Sum.f y149).bind fun t160 => (if t159 = t160 then (if 2 ≤ 6 then (if 6 ≤ (x0.length : Int) then ((batch_get_int.f k ((x0.take 6).drop 2)).bind fun t166 => (if 6 ≤ 10 then (if 10 ≤ (x0.length : Int) then ((batch_get_int.f k ((x0.take 10).drop 6)).bind fun t172 => (if 11 ≤ (y149.length : Int) then (batch_Get.l0 k (y149.drop 11) t166 t172 ([] : List (S53))) else (none))) else (none)) else (none))) else (none)) else (none)) else (some (0, 0, ([] : List (S53)), 7))))) else (none)) else (none))))) else (none)) else (none)) else (none))
def batch_Get.l0 : Nat → List Int → Int → Int → List (S53) → Option (Int × Int × (List (S53)) × Int)
  | 0, _, _, _, _ => none
  | k + 1, x7, x174000, x174001, x174002 => if (x7.length : Int) > 0 then (if 0 < (x7.length : Int) then (if 1 ≤ 9 then (if 9 ≤ (x7.length : Int) then ((batch_get_int64.f k ((x7.take 9).drop 1)).bind fun t185 => (if x174002.length < 8796093022208 then (batch_Get.l0 k (x7.drop 9) x174000 x174001 (x174002 ++ [(⟨wrap64 (rd x7 0), t185⟩ : S53)])) else (none))) else (none)) else (none)) else (none)) else ((batch_Check.f k x174000 x174001 x174002).bind fun t194 => (if t194 = 0 then (some (x174000, x174001, x174002, 0)) else (some (0, 0, ([] : List (S53)), 6))))
end
def batch_Get.f (k : Nat) (l0 : List Int) : Option (Int × Int × (List (S53)) × Int) := if (l0.length : Int) < 15 then (some (0, 0, ([] : List (S53)), 14)) else (if 0 < (l0.length : Int) then (if (rd l0 0) = 76 then (if 1 < (l0.length : Int) then (batch_Get.j0 k l0 ((rd l0 1) != 66)) else (none)) else (batch_Get.j0 k l0 true)) else (none))
theorem batch_Get.mono_l : ∀ k, (∀ y0 y1, LeO (batch_Get.j0 k y0 y1) (batch_Get.j0 (k + 1) y0 y1)) ∧ (∀ y0 y1 y2 y3, LeO (batch_Get.l0 k y0 y1 y2 y3) (batch_Get.l0 (k + 1) y0 y1 y2 y3))
  | 0 => ⟨fun _ _ r h => by simp [batch_Get.j0] at h, fun _ _ _ _ r h => by simp [batch_Get.l0] at h⟩
  | k + 1 => by
    obtain ⟨ih0, ih1⟩ := batch_Get.mono_l k
    refine ⟨?_, ?_⟩
    · intro y0 y1
      unfold batch_Get.j0
      repeat' first
      | (with_reducible exact ih0 _ _)
      | (with_reducible exact ih1 _ _ _ _)
      | (with_reducible exact batch_Check.mono _ _ _ _)
      | (with_reducible exact batch_get_int.mono _ _)
      | (with_reducible exact batch_get_int64.mono _ _)
      | (with_reducible exact batch_get_uint32.mono _ _)
      | (with_reducible exact LeO.refl _)
      | (with_reducible exact LeO.none _)
      | (with_reducible refine LeO.ite ?_ ?_)
      | (with_reducible refine LeO.bind ?_ (fun _ => ?_))
      | exact ih0 _ _
      | exact ih1 _ _ _ _
      | exact batch_Check.mono _ _ _ _
      | exact batch_get_int.mono _ _
      | exact batch_get_int64.mono _ _
      | exact batch_get_uint32.mono _ _
      | exact LeO.none _
      | refine LeO.ite ?_ ?_
      | refine LeO.bind ?_ (fun _ => ?_)
    · intro y0 y1 y2 y3
      unfold batch_Get.l0
      repeat' first
      | (with_reducible exact ih0 _ _)
      | (with_reducible exact ih1 _ _ _ _)
      | (with_reducible exact batch_Check.mono _ _ _ _)
      | (with_reducible exact batch_get_int.mono _ _)
      | (with_reducible exact batch_get_int64.mono _ _)
      | (with_reducible exact batch_get_uint32.mono _ _)
      | (with_reducible exact LeO.refl _)
      | (with_reducible exact LeO.none _)
      | (with_reducible refine LeO.ite ?_ ?_)
      | (with_reducible refine LeO.bind ?_ (fun _ => ?_))
      | exact ih0 _ _
      | exact ih1 _ _ _ _
      | exact batch_Check.mono _ _ _ _
      | exact batch_get_int.mono _ _
      | exact batch_get_int64.mono _ _
      | exact batch_get_uint32.mono _ _
      | exact LeO.none _
      | refine LeO.ite ?_ ?_
      | refine LeO.bind ?_ (fun _ => ?_)
theorem batch_Get.mono : ∀ a0 k, LeO (batch_Get.f k a0) (batch_Get.f (k + 1) a0) := by
  intro a0 k
  obtain ⟨ih0, ih1⟩ := batch_Get.mono_l k
  unfold batch_Get.f
  repeat' first
      | (with_reducible exact ih0 _ _)
      | (with_reducible exact ih1 _ _ _ _)
      | (with_reducible exact batch_Check.mono _ _ _ _)
      | (with_reducible exact batch_get_int.mono _ _)
      | (with_reducible exact batch_get_int64.mono _ _)
      | (with_reducible exact batch_get_uint32.mono _ _)
      | (with_reducible exact LeO.refl _)
      | (with_reducible exact LeO.none _)
      | (with_reducible refine LeO.ite ?_ ?_)
      | (with_reducible refine LeO.bind ?_ (fun _ => ?_))
      | exact ih0 _ _
      | exact ih1 _ _ _ _
      | exact batch_Check.mono _ _ _ _
      | exact batch_get_int.mono _ _
      | exact batch_get_int64.mono _ _
      | exact batch_get_uint32.mono _ _
      | exact LeO.none _
      | refine LeO.ite ?_ ?_
      | refine LeO.bind ?_ (fun _ => ?_)
def batch_Get.T13 : Bool × List (List Nat × List Nat) := (true, [([], []), ([0], [0]), ([1], [1]), ([], []), ([3], [3]), ([4, 2], [4]), ([2, 5], [2, 5]), ([], []), ([7, 6, 5, 0, 1, 2, 3, 4, 5, 6, 7], [6, 7])])
def batch_Get.B13 : List Nat := [0, 1, 3, 0, 8, 31, 63, 0, 255]
theorem batch_Get.tab13 : rtab .any (opsOf Try.f18 13) = batch_Get.T13 := by kernel_rfl
theorem batch_Get.bits13 : waitsOk batch_Get.T13.2 batch_Get.B13 = true := by kernel_rfl
def batch_Get.T17 : Bool × List (List Nat × List Nat) := (true, [([], []), ([0], [0]), ([], []), ([2], [2]), ([3], [3]), ([4], [4]), ([], []), ([6], [6]), ([7], [7]), ([5, 8], [5, 8]), ([9], [9]), ([1, 10, 8], [1, 10]), ([0, 1, 2, 3, 4, 5, 6, 7, 8, 9, 10, 11], []), ([12, 11, 11, 0, 1, 2, 3, 4, 5, 6, 7, 8, 9, 10, 11], [11, 12])])
def batch_Get.B17 : List Nat := [0, 1, 0, 4, 12, 28, 0, 64, 192, 508, 1020, 2047, 4095, 8191]
theorem batch_Get.tab17 : rtab .any (opsOf Try.f18 17) = batch_Get.T17 := by kernel_rfl
theorem batch_Get.bits17 : waitsOk batch_Get.T17.2 batch_Get.B17 = true := by kernel_rfl
set_option maxHeartbeats 8000000 in
set_option maxRecDepth 100000 in
theorem batch_Get.callsV (k : Nat) (P0_ : Nat → Prop) (A0 : Option Addr) (c0 : Nat) (l0 : List Int) (r1 : Int) (r2 : Int) (r3 : List (S53)) (r4 : Int) (w : World) (hs0 : Kd.V (Kd.int .u8) 5 w w.heap.size (fun k_ => P0_ k_) (.slice A0 l0.length c0) l0) (h : batch_Get.f k l0 = some (r1, r2, r3, r4)) :
    Calls Try.prog 18 #[.slice A0 l0.length c0] w fun e w' => ∃ v2_ : Value, e = .returned (.tuple #[.agg #[.int .i64 r1, .int .i64 r2, v2_], .int .i64 r4]) ∧ Kd.R k53 53 w' w.heap.size (fun k_ => (w.heap.size ≤ k_)) v2_ r3 ∧ Below w.heap.size w w' := by
  have hu32 := Try.underlying32
  have hu53 := Try.underlying53
  have HO0 := Aside0.mk (show Kd.V (Kd.int .u8) 5 w w.heap.size (fun k_ => (P0_ k_ ∨ w.heap.size ≤ k_)) (.slice A0 l0.length c0) l0 from Kd.V_mono hs0 (fun k_ hk => .inl hk))
  have HB := Aside0.mk (Below.refl w.heap.size w)
  have H : (if (l0.length : Int) < 15 then (some (0, 0, ([] : List (S53)), 14)) else (if 0 < (l0.length : Int) then (if (rd l0 0) = 76 then (if 1 < (l0.length : Int) then (batch_Get.j0 k l0 ((rd l0 1) != 66)) else (none)) else (batch_Get.j0 k l0 true)) else (none))) = some (r1, r2, r3, r4) := h
  clear h
  by_cases c2 : (l0.length : Int) < 15
  · rw [if_pos c2] at H
    have c2b0 : decide ((l0.length : Int) < 15) = true := decide_eq_true c2
    have c2b1 : decide (l0.length < 15) = true := decide_eq_true (by omega)
    clear c2
    simp only [Option.some.injEq, Prod.mk.injEq] at H
    obtain ⟨rfl, rfl, rfl, rfl⟩ := H
    go_enter Try.func18, Try.ntmps18
    go_wp2_with (first | ((with_reducible refine gate_dst (N := 2) rfl ?_); refine box_event ?hg (N := 2) ?hd (cs := #[.int .i64 0, .int .i64 0, .slice none 0 0]) (t := 32) ?hr ?_; (case hd => rfl); (case hg => rfl); (case hr => first | (go_simp; done) | (go_simp; rfl)); intro gb145 hg w3 hbox hb; have n0_ := Aside0.mk (Kd.V_below (Kd.V_elderB (by (with_reducible repeat (first | apply Kd.V_alloc | apply Kd.V_drewN | apply Kd.V_drew)); exact HO0.out) gb145 (Nat.le_of_eq hg.symm)) hb); have n1_ := Aside0.mk (below_step (by repeat (first | (with_reducible first | exact HB.out | apply below_alloc | apply pw_below_drewN | apply below_drew1) | exact HB.out)) hb); have n2_ := Aside0.mk (hbox); have n3_ := Aside0.mk ((by rw [hg]; exact (below_size (by repeat (first | (with_reducible first | exact HB.out | apply below_alloc | apply pw_below_drewN | apply below_drew1) | exact HB.out))) : w.heap.size ≤ gb145)); have n4_ := Aside0.mk ((by rw [hg]; exact (below_size (by repeat (first | (with_reducible first | exact HB.out | apply below_alloc | apply pw_below_drewN | apply below_drew1) | exact HB.out))) : w.heap.size ≤ gb145)); clear HO0; clear HB; have HO0 := n0_; have HB := n1_; have BK145 := n2_; have GW145 := n3_; have GE145 := n4_; clear n0_ n1_ n2_ n3_ n4_; clear hb hbox hg; have hcz4_0 : w3.cell? ⟨gb145, 0, none⟩ = some (.int .i64 0) := (blk_cell BK145.out 0).trans rfl; have hcz4_1 : w3.cell? ⟨gb145, 1, none⟩ = some (.int .i64 0) := (blk_cell BK145.out 1).trans rfl; have hcz4_2 : w3.cell? ⟨gb145, 2, none⟩ = some (.slice none 0 0) := (blk_cell BK145.out 2).trans rfl; have hfz4_0 := blk_frozen BK145.out 0; have hfz4_1 := blk_frozen BK145.out 1; have hfz4_2 := blk_frozen BK145.out 2))
    refine bodyPost_ret (results_ct rfl _ _ gb145 32 #[.int .i64 0, .int .i64 0, .slice none 0 0] (0, 0) _ rfl (by (with_reducible repeat (first | refine blk_drewN ?_ _ | refine blk_drew ?_ | refine blk_alloc ?_ _)); refine blk_put (cs := #[.int .i64 0, .int .i64 0, .slice none 0 0]) ?_ 2 _ rfl; (with_reducible repeat (first | refine blk_drewN ?_ _ | refine blk_drew ?_ | refine blk_alloc ?_ _)); refine blk_put (cs := #[.int .i64 0, .int .i64 0, .slice none 0 0]) ?_ 1 _ rfl; (with_reducible repeat (first | refine blk_drewN ?_ _ | refine blk_drew ?_ | refine blk_alloc ?_ _)); refine blk_put (cs := #[.int .i64 0, .int .i64 0, .slice none 0 0]) ?_ 0 _ rfl; (with_reducible repeat (first | refine blk_drewN ?_ _ | refine blk_drew ?_ | refine blk_alloc ?_ _)); exact BK145.out) Try.underlying32 rfl (by kernel_rfl)) rfl ?_
    exact ⟨_, by first | rfl | (simp [errW_none, errW_some] <;> rfl) | (simp [*, errW_none, errW_some] <;> rfl), by first | exact Kd.R_nil _ _ _ _ _ | exact Kd.N_nil _ _ _ _ _ | exact Kd.V_nil _ _ _ _ _ | exact Kd.Q_nil _ _ _ _ _ | exact Kd.S_nil _ _ _ _ _, by repeat (first | (with_reducible first | exact HB.out | apply below_alloc | apply pw_below_drewN | apply below_drew1 | refine below_set ?_ GE145.out) | exact HB.out)⟩
  · rw [if_neg c2] at H
    have c2b0 : decide ((l0.length : Int) < 15) = false := decide_eq_false c2
    have c2b1 : decide (l0.length < 15) = false := decide_eq_false (by omega)
    clear c2
    have HC5 := Aside0.mk H
    clear H
    go_enter Try.func18, Try.ntmps18
    go_upto_region 3 with (first | ((with_reducible refine gate_dst (N := 2) rfl ?_); refine box_event ?hg (N := 2) ?hd (cs := #[.int .i64 0, .int .i64 0, .slice none 0 0]) (t := 32) ?hr ?_; (case hd => rfl); (case hg => rfl); (case hr => first | (go_simp; done) | (go_simp; rfl)); intro gb145 hg w6 hbox hb; have n0_ := Aside0.mk (Kd.V_below (Kd.V_elderB (by (with_reducible repeat (first | apply Kd.V_alloc | apply Kd.V_drewN | apply Kd.V_drew)); exact HO0.out) gb145 (Nat.le_of_eq hg.symm)) hb); have n1_ := Aside0.mk (below_step (by repeat (first | (with_reducible first | exact HB.out | apply below_alloc | apply pw_below_drewN | apply below_drew1) | exact HB.out)) hb); have n2_ := Aside0.mk (hbox); have n3_ := Aside0.mk ((by rw [hg]; exact (below_size (by repeat (first | (with_reducible first | exact HB.out | apply below_alloc | apply pw_below_drewN | apply below_drew1) | exact HB.out))) : w.heap.size ≤ gb145)); have n4_ := Aside0.mk ((by rw [hg]; exact (below_size (by repeat (first | (with_reducible first | exact HB.out | apply below_alloc | apply pw_below_drewN | apply below_drew1) | exact HB.out))) : w.heap.size ≤ gb145)); clear HO0; clear HB; have HO0 := n0_; have HB := n1_; have BK145 := n2_; have GW145 := n3_; have GE145 := n4_; clear n0_ n1_ n2_ n3_ n4_; clear hb hbox hg))
    (try simp only [Act.put, List.setIfInBounds_toArray, List.set_cons_zero, List.set_cons_succ])
    go_cut [21] (fun v21 wc => ∃ (kq : Nat) (x21_4 : Bool), v21 = .bool x21_4 ∧ Aside0 (batch_Get.j0 kq l0 x21_4 = some (r1, r2, r3, r4)) ∧ Aside0 (kq ≤ k) ∧ Aside0 (Kd.V (Kd.int .u8) 5 wc w.heap.size (fun k_ => (P0_ k_ ∨ w.heap.size ≤ k_) ∧ k_ ≠ gb145) (.slice A0 l0.length c0) l0) ∧ Aside0 (wc.heap[gb145]? = some (.cells #[.int .i64 0, .int .i64 0, (.slice none 0 0)] 32 (0, 0))) ∧ Aside0 (Below w.heap.size w wc))
    case first =>
      have H := HC5.out
      clear HC5
      by_cases c7 : 0 < (l0.length : Int)
      · rw [if_pos c7] at H
        have c7b0 : decide (0 < (l0.length : Int)) = true := decide_eq_true c7
        have c7b1 : decide (0 < l0.length) = true := decide_eq_true (by omega)
        clear c7
        (first | rw [c7b0] | (simp only [i64_w, i32_w]; rw [c7b0]) | skip)
        by_cases c8 : (rd l0 0) = 76
        · rw [if_pos c8] at H
          have c8b0 : ((rd l0 0) == 76) = true := beq_iff_eq.mpr c8
          have c8b1 : ((rd l0 0) != 76) = false := bne_eq_false_iff_eq.mpr c8
          clear c8
          by_cases c9 : 1 < (l0.length : Int)
          · rw [if_pos c9] at H
            have c9b0 : decide (1 < (l0.length : Int)) = true := decide_eq_true c9
            have c9b1 : decide (1 < l0.length) = true := decide_eq_true (by omega)
            clear c9
            have H' := Aside0.mk H
            clear H
            have p146 : 0 ≤ (0 : Int) := (by omega)
            have q146 : 0 < (l0.length : Int) := of_decide_eq_true (by first | (with_reducible assumption) | assumption)
            obtain ⟨ad146, e146, hx146_0⟩ := Kd.at_int (Kd.V_reads' HO0.out).2.2 0 p146 q146
            cases e146
            have qi146 : (0 < l0.length) = True := eq_true (by omega)
            (try rw [show ((0 : Int)).toNat = 0 from rfl] at hx146_0)
            (try rw [Addr.add_zero'] at hx146_0)
            replace p146 := eq_true p146
            replace q146 := eq_true q146
            have p147 : 0 ≤ (1 : Int) := (by omega)
            have q147 : 1 < (l0.length : Int) := of_decide_eq_true (by first | (with_reducible assumption) | assumption)
            obtain ⟨ad147, e147, hx147_0⟩ := Kd.at_int (Kd.V_reads' HO0.out).2.2 1 p147 q147
            obtain rfl : ad146 = ad147 := (by injection e147)
            (try simp only [show (1 : Int).toNat = 1 from rfl, Nat.reduceMul, Nat.reduceEqDiff, Go.Addr.add, ↓reduceIte] at hx147_0)
            have qi147 : (1 < l0.length) = True := eq_true (by omega)
            (try rw [show ((1 : Int)).toNat = 1 from rfl] at hx147_0)
            replace p147 := eq_true p147
            replace q147 := eq_true q147
            go_wp2
            go_meet
            case rel => exact ⟨_, (((rd l0 1) != 66)), (by first | rfl | (simp; done) | (simp [*]; done)), H', ⟨by first | omega | exact Nat.le_refl _⟩, ⟨by (with_reducible repeat (first | apply Kd.V_alloc | apply Kd.V_drewN | apply Kd.V_drew)); exact HO0.out⟩, ⟨by (with_reducible repeat (first | refine blk_drewN ?_ _ | refine blk_drew ?_ | refine blk_alloc ?_ _)); exact BK145.out⟩, ⟨by repeat (first | (with_reducible first | exact HB.out | apply below_alloc | apply pw_below_drewN | apply below_drew1 | refine below_set ?_ GE145.out) | exact HB.out)⟩⟩
          · rw [if_neg c9] at H
            exact absurd H (by simp)
        · rw [if_neg c8] at H
          have c8b0 : ((rd l0 0) == 76) = false := beq_eq_false_iff_ne.mpr c8
          have c8b1 : ((rd l0 0) != 76) = true := bne_iff_ne.mpr c8
          have H' := Aside0.mk H
          clear H
          have p146 : 0 ≤ (0 : Int) := (by omega)
          have q146 : 0 < (l0.length : Int) := of_decide_eq_true (by first | (with_reducible assumption) | assumption)
          obtain ⟨ad146, e146, hx146_0⟩ := Kd.at_int (Kd.V_reads' HO0.out).2.2 0 p146 q146
          cases e146
          have qi146 : (0 < l0.length) = True := eq_true (by omega)
          (try rw [show ((0 : Int)).toNat = 0 from rfl] at hx146_0)
          (try rw [Addr.add_zero'] at hx146_0)
          replace p146 := eq_true p146
          replace q146 := eq_true q146
          go_wp2
          go_meet
          case rel => exact ⟨_, (true), (by first | rfl | (simp; done) | (simp [*]; done)), H', ⟨by first | omega | exact Nat.le_refl _⟩, ⟨by (with_reducible repeat (first | apply Kd.V_alloc | apply Kd.V_drewN | apply Kd.V_drew)); exact HO0.out⟩, ⟨by (with_reducible repeat (first | refine blk_drewN ?_ _ | refine blk_drew ?_ | refine blk_alloc ?_ _)); exact BK145.out⟩, ⟨by repeat (first | (with_reducible first | exact HB.out | apply below_alloc | apply pw_below_drewN | apply below_drew1 | refine below_set ?_ GE145.out) | exact HB.out)⟩⟩
      · rw [if_neg c7] at H
        exact absurd H (by simp)
    case rest =>
      clear HC5
      try clear c1
      try clear p1
      try clear q1
      try clear hx1
      try clear qi1
      try clear c2
      try clear c2b0
      try clear c2b1
      try clear p2
      try clear c7
      try clear c7b0
      try clear c7b1
      try clear c8
      try clear c8b0
      try clear c8b1
      try clear c9
      try clear c9b0
      try clear c9b1
      try clear hcz4_0
      try clear hcz4_1
      try clear hcz4_2
      try clear hfz4_0
      try clear hfz4_1
      try clear hfz4_2
      try clear hx146_0
      try clear hx147_0
      try clear p146
      try clear p147
      try clear q146
      try clear q147
      obtain ⟨kq, x21_4, rfl, HA, HJ4, HO_0, BK145, HB⟩ := hcut
      cases kq with
      | zero => exact absurd HA.out (by simp [batch_Get.j0])
      | succ kj4 =>
        have H := HA.out
        clear HA
        simp only [batch_Get.j0] at H
        by_cases c10 : x21_4 = true
        · subst c10
          have H1 : (some (0, 0, ([] : List (S53)), 6)) = some (r1, r2, r3, r4) := by rw [if_pos rfl] at H; exact H
          clear H
          have H := H1
          clear H1
          simp only [Option.some.injEq, Prod.mk.injEq] at H
          obtain ⟨rfl, rfl, rfl, rfl⟩ := H
          have hcz11_0 : wc.cell? ⟨gb145, 0, none⟩ = some (.int .i64 0) := (blk_cell BK145.out 0).trans rfl
          have hcz11_1 : wc.cell? ⟨gb145, 1, none⟩ = some (.int .i64 0) := (blk_cell BK145.out 1).trans rfl
          have hcz11_2 : wc.cell? ⟨gb145, 2, none⟩ = some (.slice none 0 0) := (blk_cell BK145.out 2).trans rfl
          have hfz11_0 := blk_frozen BK145.out 0
          have hfz11_1 := blk_frozen BK145.out 1
          have hfz11_2 := blk_frozen BK145.out 2
          go_wp2
          refine bodyPost_ret (results_ct rfl _ _ gb145 32 #[.int .i64 0, .int .i64 0, .slice none 0 0] (0, 0) _ rfl (by (with_reducible repeat (first | refine blk_drewN ?_ _ | refine blk_drew ?_ | refine blk_alloc ?_ _)); refine blk_put (cs := #[.int .i64 0, .int .i64 0, .slice none 0 0]) ?_ 2 _ rfl; (with_reducible repeat (first | refine blk_drewN ?_ _ | refine blk_drew ?_ | refine blk_alloc ?_ _)); refine blk_put (cs := #[.int .i64 0, .int .i64 0, .slice none 0 0]) ?_ 1 _ rfl; (with_reducible repeat (first | refine blk_drewN ?_ _ | refine blk_drew ?_ | refine blk_alloc ?_ _)); refine blk_put (cs := #[.int .i64 0, .int .i64 0, .slice none 0 0]) ?_ 0 _ rfl; (with_reducible repeat (first | refine blk_drewN ?_ _ | refine blk_drew ?_ | refine blk_alloc ?_ _)); exact BK145.out) Try.underlying32 rfl (by kernel_rfl)) rfl ?_
          exact ⟨_, by first | rfl | (simp [errW_none, errW_some] <;> rfl) | (simp [*, errW_none, errW_some] <;> rfl), by first | exact Kd.R_nil _ _ _ _ _ | exact Kd.N_nil _ _ _ _ _ | exact Kd.V_nil _ _ _ _ _ | exact Kd.Q_nil _ _ _ _ _ | exact Kd.S_nil _ _ _ _ _, by repeat (first | (with_reducible first | exact HB.out | apply below_alloc | apply pw_below_drewN | apply below_drew1 | refine below_set ?_ GE145.out) | exact HB.out)⟩
        · replace c10 := Bool.eq_false_iff.mpr c10
          subst c10
          have H1 : (if 10 < (l0.length : Int) then (if 0 ≤ (wrap64 ((l0.length : Int) - 4)) then (if (wrap64 ((l0.length : Int) - 4)) ≤ (l0.length : Int) then ((some (l0.take ((wrap64 ((l0.length : Int) - 4)) : Int).toNat : List Int)).bind fun y149 => (if (l0.length : Int) < (wrap64 (15 + (wrap64 (9 * (wrap64 (rd l0 10)))))) then (some (0, 0, ([] : List (S53)), 14)) else (if (l0.length : Int) > (wrap64 (15 + (wrap64 (9 * (wrap64 (rd l0 10)))))) then (some (0, 0, ([] : List (S53)), 6)) else (if 0 ≤ (y149.length : Int) then (if (y149.length : Int) ≤ (l0.length : Int) then ((batch_get_uint32.f kj4 (l0.drop ((y149.length : Int) : Int).toNat)).bind fun t159 => ((batch_Sum.f y149).bind fun t160 => (if t159 = t160 then (if 2 ≤ 6 then (if 6 ≤ (l0.length : Int) then ((batch_get_int.f kj4 ((l0.take 6).drop 2)).bind fun t166 => (if 6 ≤ 10 then (if 10 ≤ (l0.length : Int) then ((batch_get_int.f kj4 ((l0.take 10).drop 6)).bind fun t172 => (if 11 ≤ (y149.length : Int) then (batch_Get.l0 kj4 (y149.drop 11) t166 t172 ([] : List (S53))) else (none))) else (none)) else (none))) else (none)) else (none)) else (some (0, 0, ([] : List (S53)), 7))))) else (none)) else (none))))) else (none)) else (none)) else (none)) = some (r1, r2, r3, r4) := by rw [if_neg (show ¬ (false = true) by decide)] at H; exact H
          clear H
          have H := H1
          clear H1
          by_cases c12 : 10 < (l0.length : Int)
          · rw [if_pos c12] at H
            have c12b0 : decide (10 < (l0.length : Int)) = true := decide_eq_true c12
            have c12b1 : decide (10 < l0.length) = true := decide_eq_true (by omega)
            clear c12
            obtain ⟨ji13, hji13⟩ : ∃ j_ : Int, (wrap64 ((l0.length : Int) - 4)) = j_ := ⟨_, rfl⟩
            replace H : (if 0 ≤ (ji13) then (if (ji13) ≤ (l0.length : Int) then ((some (l0.take ((ji13) : Int).toNat : List Int)).bind fun y149 => (if (l0.length : Int) < (wrap64 (15 + (wrap64 (9 * (wrap64 (rd l0 10)))))) then (some (0, 0, ([] : List (S53)), 14)) else (if (l0.length : Int) > (wrap64 (15 + (wrap64 (9 * (wrap64 (rd l0 10)))))) then (some (0, 0, ([] : List (S53)), 6)) else (if 0 ≤ (y149.length : Int) then (if (y149.length : Int) ≤ (l0.length : Int) then ((batch_get_uint32.f kj4 (l0.drop ((y149.length : Int) : Int).toNat)).bind fun t159 => ((batch_Sum.f y149).bind fun t160 => (if t159 = t160 then (if 2 ≤ 6 then (if 6 ≤ (l0.length : Int) then ((batch_get_int.f kj4 ((l0.take 6).drop 2)).bind fun t166 => (if 6 ≤ 10 then (if 10 ≤ (l0.length : Int) then ((batch_get_int.f kj4 ((l0.take 10).drop 6)).bind fun t172 => (if 11 ≤ (y149.length : Int) then (batch_Get.l0 kj4 (y149.drop 11) t166 t172 ([] : List (S53))) else (none))) else (none)) else (none))) else (none)) else (none)) else (some (0, 0, ([] : List (S53)), 7))))) else (none)) else (none))))) else (none)) else (none)) = some (r1, r2, r3, r4) := by first | (rw [hji13] at H; exact H) | (simp only [hji13] at H ⊢; exact H)
            have hji13w : (IntKind.i64.wrap ((l0.length : Int) - 4)) = ji13 := (i64_w _).trans hji13
            by_cases c14 : 0 ≤ (ji13)
            · rw [if_pos c14] at H
              have c14b0 := eq_true c14
              have c14b1 : decide (0 ≤ (ji13)) = true := decide_eq_true c14
              clear c14
              by_cases c15 : (ji13) ≤ (l0.length : Int)
              · rw [if_pos c15] at H
                have c15b0 := eq_true c15
                have c15b1 : decide ((ji13) ≤ (l0.length : Int)) = true := decide_eq_true c15
                clear c15
                obtain ⟨y149, hy149⟩ : ∃ y_ : List Int, y_ = (l0.take ((ji13) : Int).toNat) := ⟨_, rfl⟩
                replace H : (if (l0.length : Int) < (wrap64 (15 + (wrap64 (9 * (wrap64 (rd l0 10)))))) then (some (0, 0, ([] : List (S53)), 14)) else (if (l0.length : Int) > (wrap64 (15 + (wrap64 (9 * (wrap64 (rd l0 10)))))) then (some (0, 0, ([] : List (S53)), 6)) else (if 0 ≤ (y149.length : Int) then (if (y149.length : Int) ≤ (l0.length : Int) then ((batch_get_uint32.f kj4 (l0.drop ((y149.length : Int) : Int).toNat)).bind fun t159 => ((batch_Sum.f y149).bind fun t160 => (if t159 = t160 then (if 2 ≤ 6 then (if 6 ≤ (l0.length : Int) then ((batch_get_int.f kj4 ((l0.take 6).drop 2)).bind fun t166 => (if 6 ≤ 10 then (if 10 ≤ (l0.length : Int) then ((batch_get_int.f kj4 ((l0.take 10).drop 6)).bind fun t172 => (if 11 ≤ (y149.length : Int) then (batch_Get.l0 kj4 (y149.drop 11) t166 t172 ([] : List (S53))) else (none))) else (none)) else (none))) else (none)) else (none)) else (some (0, 0, ([] : List (S53)), 7))))) else (none)) else (none)))) = some (r1, r2, r3, r4) := by first | (rw [hy149]; with_reducible exact H) | (have H2_ := (Option.bind_some _ _).symm.trans H; rw [hy149]; with_reducible exact H2_) | (have H2_ := (Option.bind_some _ _).symm.trans H; with_reducible exact H2_) | with_reducible exact H | (rw [hy149]; exact H) | exact H
                have Ny149 := Aside0.mk hy149
                clear hy149
                by_cases c16 : (l0.length : Int) < (wrap64 (15 + (wrap64 (9 * (wrap64 (rd l0 10))))))
                · rw [if_pos c16] at H
                  have c16b0 : decide ((l0.length : Int) < (wrap64 (15 + (wrap64 (9 * (wrap64 (rd l0 10))))))) = true := decide_eq_true c16
                  clear c16
                  simp only [Option.some.injEq, Prod.mk.injEq] at H
                  obtain ⟨rfl, rfl, rfl, rfl⟩ := H
                  have p148 : 0 ≤ (10 : Int) := (by omega)
                  have q148 : 10 < (l0.length : Int) := of_decide_eq_true (by first | (with_reducible assumption) | assumption)
                  obtain ⟨ad148, e148, hx148_0⟩ := Kd.at_int (Kd.V_reads' HO_0.out).2.2 10 p148 q148
                  cases e148
                  (try simp only [show (10 : Int).toNat = 10 from rfl, Nat.reduceMul, Nat.reduceEqDiff, Go.Addr.add, ↓reduceIte] at hx148_0)
                  have qi148 : (10 < l0.length) = True := eq_true (by omega)
                  (try rw [show ((10 : Int)).toNat = 10 from rfl] at hx148_0)
                  replace p148 := eq_true p148
                  replace q148 := eq_true q148
                  have q17 : ((ji13) : Int) ≤ ((l0.length : Int) : Int) := of_decide_eq_true (by first | (with_reducible assumption) | assumption)
                  obtain ⟨i017, hi017, _, hsz17, _⟩ := info_parts info5
                  have hroom17 : l0.length ≤ c0 := (Kd.V_reads' HO_0.out).2.1
                  have hC17 : Kd.F (Kd.int .u8) _ _ (some ad148) l0.length l0 := (Kd.V_at (base := w.heap.size) HO_0.out).2.2
                  have hcut17 := cut_to (P := Try.prog) 25 5 .i64 Try.underlying25 hi017 (some ad148) l0.length c0 (ji13) (of_decide_eq_true (by first | (with_reducible assumption) | assumption)) q17 hroom17
                  have hr17 := Kd.F_take (m := ((ji13) : Int).toNat) hC17 (by omega)
                  have hy17 : y149.length = ((ji13) : Int).toNat := (by rw [Ny149.out, List.length_take]; omega)
                  rw [← Ny149.out] at hr17
                  rw [← hy17] at hcut17
                  have HO153 := Aside0.mk (show Kd.V (Kd.int .u8) 5 _ w.heap.size _ (.slice (some ad148) y149.length c0) y149 from Kd.V_mk (by omega) hr17)
                  have HC153 := Aside0.mk (show y149.length ≤ c0 from by omega)
                  clear hr17 hC17 hroom17 hi017 hsz17
                  have KY17 := Aside0.mk hy17
                  clear hy17
                  replace q17 := eq_true q17
                  have hcz18_0 : wc.cell? ⟨gb145, 0, none⟩ = some (.int .i64 0) := (blk_cell BK145.out 0).trans rfl
                  have hcz18_1 : wc.cell? ⟨gb145, 1, none⟩ = some (.int .i64 0) := (blk_cell BK145.out 1).trans rfl
                  have hcz18_2 : wc.cell? ⟨gb145, 2, none⟩ = some (.slice none 0 0) := (blk_cell BK145.out 2).trans rfl
                  have hfz18_0 := blk_frozen BK145.out 0
                  have hfz18_1 := blk_frozen BK145.out 1
                  have hfz18_2 := blk_frozen BK145.out 2
                  go_wp2
                  refine bodyPost_ret (results_ct rfl _ _ gb145 32 #[.int .i64 0, .int .i64 0, .slice none 0 0] (0, 0) _ rfl (by (with_reducible repeat (first | refine blk_drewN ?_ _ | refine blk_drew ?_ | refine blk_alloc ?_ _)); refine blk_put (cs := #[.int .i64 0, .int .i64 0, .slice none 0 0]) ?_ 2 _ rfl; (with_reducible repeat (first | refine blk_drewN ?_ _ | refine blk_drew ?_ | refine blk_alloc ?_ _)); refine blk_put (cs := #[.int .i64 0, .int .i64 0, .slice none 0 0]) ?_ 1 _ rfl; (with_reducible repeat (first | refine blk_drewN ?_ _ | refine blk_drew ?_ | refine blk_alloc ?_ _)); refine blk_put (cs := #[.int .i64 0, .int .i64 0, .slice none 0 0]) ?_ 0 _ rfl; (with_reducible repeat (first | refine blk_drewN ?_ _ | refine blk_drew ?_ | refine blk_alloc ?_ _)); exact BK145.out) Try.underlying32 rfl (by kernel_rfl)) rfl ?_
                  exact ⟨_, by first | rfl | (simp [errW_none, errW_some] <;> rfl) | (simp only [← hji13]; first | rfl | (simp [errW_none, errW_some] <;> rfl)) | (simp [*, errW_none, errW_some] <;> rfl), by first | exact Kd.R_nil _ _ _ _ _ | exact Kd.N_nil _ _ _ _ _ | exact Kd.V_nil _ _ _ _ _ | exact Kd.Q_nil _ _ _ _ _ | exact Kd.S_nil _ _ _ _ _, by repeat (first | (with_reducible first | exact HB.out | apply below_alloc | apply pw_below_drewN | apply below_drew1 | refine below_set ?_ GE145.out) | exact HB.out)⟩
                · rw [if_neg c16] at H
                  have c16b0 : decide ((l0.length : Int) < (wrap64 (15 + (wrap64 (9 * (wrap64 (rd l0 10))))))) = false := decide_eq_false c16
                  clear c16
                  by_cases c19 : (l0.length : Int) > (wrap64 (15 + (wrap64 (9 * (wrap64 (rd l0 10))))))
                  · rw [if_pos c19] at H
                    have c19b0 : decide ((wrap64 (15 + (wrap64 (9 * (wrap64 (rd l0 10)))))) < (l0.length : Int)) = true := decide_eq_true c19
                    clear c19
                    simp only [Option.some.injEq, Prod.mk.injEq] at H
                    obtain ⟨rfl, rfl, rfl, rfl⟩ := H
                    have p148 : 0 ≤ (10 : Int) := (by omega)
                    have q148 : 10 < (l0.length : Int) := of_decide_eq_true (by first | (with_reducible assumption) | assumption)
                    obtain ⟨ad148, e148, hx148_0⟩ := Kd.at_int (Kd.V_reads' HO_0.out).2.2 10 p148 q148
                    cases e148
                    (try simp only [show (10 : Int).toNat = 10 from rfl, Nat.reduceMul, Nat.reduceEqDiff, Go.Addr.add, ↓reduceIte] at hx148_0)
                    have qi148 : (10 < l0.length) = True := eq_true (by omega)
                    (try rw [show ((10 : Int)).toNat = 10 from rfl] at hx148_0)
                    replace p148 := eq_true p148
                    replace q148 := eq_true q148
                    have q20 : ((ji13) : Int) ≤ ((l0.length : Int) : Int) := of_decide_eq_true (by first | (with_reducible assumption) | assumption)
                    obtain ⟨i020, hi020, _, hsz20, _⟩ := info_parts info5
                    have hroom20 : l0.length ≤ c0 := (Kd.V_reads' HO_0.out).2.1
                    have hC20 : Kd.F (Kd.int .u8) _ _ (some ad148) l0.length l0 := (Kd.V_at (base := w.heap.size) HO_0.out).2.2
                    have hcut20 := cut_to (P := Try.prog) 25 5 .i64 Try.underlying25 hi020 (some ad148) l0.length c0 (ji13) (of_decide_eq_true (by first | (with_reducible assumption) | assumption)) q20 hroom20
                    have hr20 := Kd.F_take (m := ((ji13) : Int).toNat) hC20 (by omega)
                    have hy20 : y149.length = ((ji13) : Int).toNat := (by rw [Ny149.out, List.length_take]; omega)
                    rw [← Ny149.out] at hr20
                    rw [← hy20] at hcut20
                    have HO153 := Aside0.mk (show Kd.V (Kd.int .u8) 5 _ w.heap.size _ (.slice (some ad148) y149.length c0) y149 from Kd.V_mk (by omega) hr20)
                    have HC153 := Aside0.mk (show y149.length ≤ c0 from by omega)
                    clear hr20 hC20 hroom20 hi020 hsz20
                    have KY20 := Aside0.mk hy20
                    clear hy20
                    replace q20 := eq_true q20
                    have hcz21_0 : wc.cell? ⟨gb145, 0, none⟩ = some (.int .i64 0) := (blk_cell BK145.out 0).trans rfl
                    have hcz21_1 : wc.cell? ⟨gb145, 1, none⟩ = some (.int .i64 0) := (blk_cell BK145.out 1).trans rfl
                    have hcz21_2 : wc.cell? ⟨gb145, 2, none⟩ = some (.slice none 0 0) := (blk_cell BK145.out 2).trans rfl
                    have hfz21_0 := blk_frozen BK145.out 0
                    have hfz21_1 := blk_frozen BK145.out 1
                    have hfz21_2 := blk_frozen BK145.out 2
                    go_wp2
                    refine bodyPost_ret (results_ct rfl _ _ gb145 32 #[.int .i64 0, .int .i64 0, .slice none 0 0] (0, 0) _ rfl (by (with_reducible repeat (first | refine blk_drewN ?_ _ | refine blk_drew ?_ | refine blk_alloc ?_ _)); refine blk_put (cs := #[.int .i64 0, .int .i64 0, .slice none 0 0]) ?_ 2 _ rfl; (with_reducible repeat (first | refine blk_drewN ?_ _ | refine blk_drew ?_ | refine blk_alloc ?_ _)); refine blk_put (cs := #[.int .i64 0, .int .i64 0, .slice none 0 0]) ?_ 1 _ rfl; (with_reducible repeat (first | refine blk_drewN ?_ _ | refine blk_drew ?_ | refine blk_alloc ?_ _)); refine blk_put (cs := #[.int .i64 0, .int .i64 0, .slice none 0 0]) ?_ 0 _ rfl; (with_reducible repeat (first | refine blk_drewN ?_ _ | refine blk_drew ?_ | refine blk_alloc ?_ _)); exact BK145.out) Try.underlying32 rfl (by kernel_rfl)) rfl ?_
                    exact ⟨_, by first | rfl | (simp [errW_none, errW_some] <;> rfl) | (simp only [← hji13]; first | rfl | (simp [errW_none, errW_some] <;> rfl)) | (simp [*, errW_none, errW_some] <;> rfl), by first | exact Kd.R_nil _ _ _ _ _ | exact Kd.N_nil _ _ _ _ _ | exact Kd.V_nil _ _ _ _ _ | exact Kd.Q_nil _ _ _ _ _ | exact Kd.S_nil _ _ _ _ _, by repeat (first | (with_reducible first | exact HB.out | apply below_alloc | apply pw_below_drewN | apply below_drew1 | refine below_set ?_ GE145.out) | exact HB.out)⟩
                  · rw [if_neg c19] at H
                    have c19b0 : decide ((wrap64 (15 + (wrap64 (9 * (wrap64 (rd l0 10)))))) < (l0.length : Int)) = false := decide_eq_false c19
                    clear c19
                    by_cases c22 : 0 ≤ (y149.length : Int)
                    · rw [if_pos c22] at H
                      have c22b0 := eq_true c22
                      have c22b1 : decide (0 ≤ (y149.length : Int)) = true := decide_eq_true c22
                      clear c22
                      by_cases c23 : (y149.length : Int) ≤ (l0.length : Int)
                      · rw [if_pos c23] at H
                        have c23b0 := eq_true c23
                        have c23b1 : decide ((y149.length : Int) ≤ (l0.length : Int)) = true := decide_eq_true c23
                        clear c23
                        obtain ⟨y154, hy154⟩ : ∃ y_ : List Int, y_ = (l0.drop ((y149.length : Int) : Int).toNat) := ⟨_, rfl⟩
                        replace H : ((batch_get_uint32.f kj4 y154).bind fun t159 => ((batch_Sum.f y149).bind fun t160 => (if t159 = t160 then (if 2 ≤ 6 then (if 6 ≤ (l0.length : Int) then ((batch_get_int.f kj4 ((l0.take 6).drop 2)).bind fun t166 => (if 6 ≤ 10 then (if 10 ≤ (l0.length : Int) then ((batch_get_int.f kj4 ((l0.take 10).drop 6)).bind fun t172 => (if 11 ≤ (y149.length : Int) then (batch_Get.l0 kj4 (y149.drop 11) t166 t172 ([] : List (S53))) else (none))) else (none)) else (none))) else (none)) else (none)) else (some (0, 0, ([] : List (S53)), 7))))) = some (r1, r2, r3, r4) := by first | (rw [hy154]; with_reducible exact H) | (have H2_ := (Option.bind_some _ _).symm.trans H; rw [hy154]; with_reducible exact H2_) | (have H2_ := (Option.bind_some _ _).symm.trans H; with_reducible exact H2_) | with_reducible exact H | (rw [hy154]; exact H) | exact H
                        have Ny154 := Aside0.mk hy154
                        clear hy154
                        replace H := Option.bind_eq_some_iff.mp H
                        obtain ⟨t159, A240, H⟩ := H
                        replace H : ((batch_Sum.f y149).bind fun t160 => (if t159 = t160 then (if 2 ≤ 6 then (if 6 ≤ (l0.length : Int) then ((batch_get_int.f kj4 ((l0.take 6).drop 2)).bind fun t166 => (if 6 ≤ 10 then (if 10 ≤ (l0.length : Int) then ((batch_get_int.f kj4 ((l0.take 10).drop 6)).bind fun t172 => (if 11 ≤ (y149.length : Int) then (batch_Get.l0 kj4 (y149.drop 11) t166 t172 ([] : List (S53))) else (none))) else (none)) else (none))) else (none)) else (none)) else (some (0, 0, ([] : List (S53)), 7)))) = some (r1, r2, r3, r4) := H
                        have A24 := Aside0.mk A240
                        clear A240
                        replace H := Option.bind_eq_some_iff.mp H
                        obtain ⟨t160, A250, H⟩ := H
                        replace H : (if t159 = t160 then (if 2 ≤ 6 then (if 6 ≤ (l0.length : Int) then ((batch_get_int.f kj4 ((l0.take 6).drop 2)).bind fun t166 => (if 6 ≤ 10 then (if 10 ≤ (l0.length : Int) then ((batch_get_int.f kj4 ((l0.take 10).drop 6)).bind fun t172 => (if 11 ≤ (y149.length : Int) then (batch_Get.l0 kj4 (y149.drop 11) t166 t172 ([] : List (S53))) else (none))) else (none)) else (none))) else (none)) else (none)) else (some (0, 0, ([] : List (S53)), 7))) = some (r1, r2, r3, r4) := H
                        have A25 := Aside0.mk A250
                        clear A250
                        by_cases c26 : t159 = t160
                        · rw [if_pos c26] at H
                          have c26b0 : (t159 == t160) = true := beq_iff_eq.mpr c26
                          have c26b1 : (t159 != t160) = false := bne_eq_false_iff_eq.mpr c26
                          clear c26
                          by_cases c27 : 2 ≤ 6
                          · rw [if_pos c27] at H
                            have c27b0 := eq_true c27
                            have c27b1 : decide (2 ≤ 6) = true := decide_eq_true c27
                            clear c27
                            by_cases c28 : 6 ≤ (l0.length : Int)
                            · rw [if_pos c28] at H
                              have c28b0 := eq_true c28
                              have c28b1 : decide (6 ≤ (l0.length : Int)) = true := decide_eq_true c28
                              clear c28
                              obtain ⟨y161, hy161⟩ : ∃ y_ : List Int, y_ = ((l0.take 6).drop 2) := ⟨_, rfl⟩
                              replace H : ((batch_get_int.f kj4 y161).bind fun t166 => (if 6 ≤ 10 then (if 10 ≤ (l0.length : Int) then ((batch_get_int.f kj4 ((l0.take 10).drop 6)).bind fun t172 => (if 11 ≤ (y149.length : Int) then (batch_Get.l0 kj4 (y149.drop 11) t166 t172 ([] : List (S53))) else (none))) else (none)) else (none))) = some (r1, r2, r3, r4) := by first | (rw [hy161]; with_reducible exact H) | (have H2_ := (Option.bind_some _ _).symm.trans H; rw [hy161]; with_reducible exact H2_) | (have H2_ := (Option.bind_some _ _).symm.trans H; with_reducible exact H2_) | with_reducible exact H | (rw [hy161]; exact H) | exact H
                              have Ny161 := Aside0.mk hy161
                              clear hy161
                              replace H := Option.bind_eq_some_iff.mp H
                              obtain ⟨t166, A290, H⟩ := H
                              replace H : (if 6 ≤ 10 then (if 10 ≤ (l0.length : Int) then ((batch_get_int.f kj4 ((l0.take 10).drop 6)).bind fun t172 => (if 11 ≤ (y149.length : Int) then (batch_Get.l0 kj4 (y149.drop 11) t166 t172 ([] : List (S53))) else (none))) else (none)) else (none)) = some (r1, r2, r3, r4) := H
                              have A29 := Aside0.mk A290
                              clear A290
                              by_cases c30 : 6 ≤ 10
                              · rw [if_pos c30] at H
                                have c30b0 := eq_true c30
                                have c30b1 : decide (6 ≤ 10) = true := decide_eq_true c30
                                clear c30
                                by_cases c31 : 10 ≤ (l0.length : Int)
                                · rw [if_pos c31] at H
                                  have c31b0 := eq_true c31
                                  have c31b1 : decide (10 ≤ (l0.length : Int)) = true := decide_eq_true c31
                                  clear c31
                                  obtain ⟨y167, hy167⟩ : ∃ y_ : List Int, y_ = ((l0.take 10).drop 6) := ⟨_, rfl⟩
                                  replace H : ((batch_get_int.f kj4 y167).bind fun t172 => (if 11 ≤ (y149.length : Int) then (batch_Get.l0 kj4 (y149.drop 11) t166 t172 ([] : List (S53))) else (none))) = some (r1, r2, r3, r4) := by first | (rw [hy167]; with_reducible exact H) | (have H2_ := (Option.bind_some _ _).symm.trans H; rw [hy167]; with_reducible exact H2_) | (have H2_ := (Option.bind_some _ _).symm.trans H; with_reducible exact H2_) | with_reducible exact H | (rw [hy167]; exact H) | exact H
                                  have Ny167 := Aside0.mk hy167
                                  clear hy167
                                  replace H := Option.bind_eq_some_iff.mp H
                                  obtain ⟨t172, A320, H⟩ := H
                                  replace H : (if 11 ≤ (y149.length : Int) then (batch_Get.l0 kj4 (y149.drop 11) t166 t172 ([] : List (S53))) else (none)) = some (r1, r2, r3, r4) := H
                                  have A32 := Aside0.mk A320
                                  clear A320
                                  by_cases c33 : 11 ≤ (y149.length : Int)
                                  · rw [if_pos c33] at H
                                    have c33b0 := eq_true c33
                                    have c33b1 : decide (11 ≤ (y149.length : Int)) = true := decide_eq_true c33
                                    clear c33
                                    obtain ⟨y174, hy174⟩ : ∃ y_ : List Int, y_ = (y149.drop 11) := ⟨_, rfl⟩
                                    replace H : (batch_Get.l0 kj4 y174 t166 t172 ([] : List (S53))) = some (r1, r2, r3, r4) := by first | (rw [hy174]; with_reducible exact H) | (have H2_ := (Option.bind_some _ _).symm.trans H; rw [hy174]; with_reducible exact H2_) | (have H2_ := (Option.bind_some _ _).symm.trans H; with_reducible exact H2_) | with_reducible exact H | (rw [hy174]; exact H) | exact H
                                    have Ny174 := Aside0.mk hy174
                                    clear hy174
                                    have H' := Aside0.mk H
                                    clear H
                                    have p148 : 0 ≤ (10 : Int) := (by omega)
                                    have q148 : 10 < (l0.length : Int) := of_decide_eq_true (by first | (with_reducible assumption) | assumption)
                                    obtain ⟨ad148, e148, hx148_0⟩ := Kd.at_int (Kd.V_reads' HO_0.out).2.2 10 p148 q148
                                    cases e148
                                    (try simp only [show (10 : Int).toNat = 10 from rfl, Nat.reduceMul, Nat.reduceEqDiff, Go.Addr.add, ↓reduceIte] at hx148_0)
                                    have qi148 : (10 < l0.length) = True := eq_true (by omega)
                                    (try rw [show ((10 : Int)).toNat = 10 from rfl] at hx148_0)
                                    replace p148 := eq_true p148
                                    replace q148 := eq_true q148
                                    have q34 : ((ji13) : Int) ≤ ((l0.length : Int) : Int) := of_decide_eq_true (by first | (with_reducible assumption) | assumption)
                                    obtain ⟨i034, hi034, _, hsz34, _⟩ := info_parts info5
                                    have hroom34 : l0.length ≤ c0 := (Kd.V_reads' HO_0.out).2.1
                                    have hC34 : Kd.F (Kd.int .u8) _ _ (some ad148) l0.length l0 := (Kd.V_at (base := w.heap.size) HO_0.out).2.2
                                    have hcut34 := cut_to (P := Try.prog) 25 5 .i64 Try.underlying25 hi034 (some ad148) l0.length c0 (ji13) (of_decide_eq_true (by first | (with_reducible assumption) | assumption)) q34 hroom34
                                    have hr34 := Kd.F_take (m := ((ji13) : Int).toNat) hC34 (by omega)
                                    have hy34 : y149.length = ((ji13) : Int).toNat := (by rw [Ny149.out, List.length_take]; omega)
                                    rw [← Ny149.out] at hr34
                                    rw [← hy34] at hcut34
                                    have HO153 := Aside0.mk (show Kd.V (Kd.int .u8) 5 _ w.heap.size _ (.slice (some ad148) y149.length c0) y149 from Kd.V_mk (by omega) hr34)
                                    have HC153 := Aside0.mk (show y149.length ≤ c0 from by omega)
                                    clear hr34 hC34 hroom34 hi034 hsz34
                                    have KY34 := Aside0.mk hy34
                                    clear hy34
                                    replace q34 := eq_true q34
                                    have q35 : ((y149.length : Int) : Int) ≤ ((l0.length : Int) : Int) := of_decide_eq_true (by first | (with_reducible assumption) | assumption)
                                    obtain ⟨i035, hi035, _, hsz35, _⟩ := info_parts info5
                                    have hroom35 : l0.length ≤ c0 := (Kd.V_reads' HO_0.out).2.1
                                    have hC35 : Kd.F (Kd.int .u8) _ _ (some ad148) l0.length l0 := (Kd.V_at (base := w.heap.size) HO_0.out).2.2
                                    have q035 : (0 : Int) ≤ ((y149.length : Int) : Int) := of_decide_eq_true (by first | (with_reducible assumption) | assumption)
                                    have hcut35 := cut_from (P := Try.prog) 25 5 .i64 Try.underlying25 hi035 1 hsz35 (some ad148) l0.length c0 (y149.length : Int) q035 q35
                                    have hr35 := Kd.F_cut (m := ((y149.length : Int) : Int).toNat) (c := c0) hC35 (by omega) hroom35
                                    obtain ⟨A35, hA35⟩ : ∃ A1_q, A1_q = (if c0 = ((y149.length : Int) : Int).toNat then (some ad148) else ((some ad148) : Option Addr).map (·.add (((y149.length : Int) : Int).toNat * 1))) := ⟨_, rfl⟩
                                    obtain ⟨c35, hc35⟩ : ∃ c1_q, c1_q = c0 - ((y149.length : Int) : Int).toNat := ⟨_, rfl⟩
                                    have hy35 : y154.length = l0.length - ((y149.length : Int) : Int).toNat := (by rw [Ny154.out, List.length_drop] <;> omega)
                                    rw [show (l0).drop ((y149.length : Int) : Int).toNat = y154 from Ny154.out.symm] at hr35
                                    replace hr35 : Kd.F (Kd.int .u8) _ _ A35 y154.length y154 := (by rw [hA35]; exact hr35)
                                    rw [← hy35, ← hA35, ← hc35] at hcut35
                                    have HO158 := Aside0.mk (show Kd.V (Kd.int .u8) 5 _ w.heap.size _ (.slice A35 y154.length c35) y154 from Kd.V_mk (by rw [hy35, hc35]; exact Nat.sub_le_sub_right hroom35 _) hr35)
                                    have HC158 := Aside0.mk (show y154.length ≤ c35 from by rw [hy35, hc35]; exact Nat.sub_le_sub_right hroom35 _)
                                    clear hr35 hC35 hroom35 hi035 hsz35 hc35
                                    have KY35 := Aside0.mk hy35
                                    have KA35 := Aside0.mk hA35
                                    clear hy35 hA35
                                    replace q35 := eq_true q35
                                    try go_wp2_with (first | ((with_reducible refine gate_callee (f := 30) rfl ?_); refine goesL_ (some 51) rfl rfl Try.func30 (by kernel_rfl) rfl #[.slice A35 y154.length c35] rfl (by (try simp only [List.map_toArray, List.map_cons, List.map_nil]); first | done | rfl | (simp only [List.length_drop, List.length_take]; rfl)) ?_; (with_reducible refine (batch_get_uint32.calls kj4 _ _ y154 t159 _ ?side1 ?side2 A24.out).mono ?_); (case side1 => repeat (first | exact (Kd.V_reads' HO158.out).2.2 | (with_reducible refine Kd.C_alloc ?_ _) | (with_reducible refine Kd.C_drewN ?_ _) | (with_reducible refine Kd.C_drew ?_))); (case side2 => exact (Kd.V_reads' HO158.out).2.1); rintro e w' ⟨rfl, ⟨nd, rfl⟩⟩; refine ⟨_, rfl, ?_⟩; (try (rw [drewN_self wc]; generalize hq_ : World.drewN wc _ = wc; have n0_ : Aside0 (Kd.V (Kd.int .u8) 5 wc w.heap.size (fun k_ => (P0_ k_ ∨ w.heap.size ≤ k_) ∧ k_ ≠ gb145) (.slice (some ad148) y149.length c0) y149) := ⟨by rw [← hq_]; exact (by (with_reducible repeat (first | apply Kd.V_alloc | apply Kd.V_drewN | apply Kd.V_drew)); exact HO153.out)⟩; have n1_ : Aside0 (Kd.V (Kd.int .u8) 5 wc w.heap.size (fun k_ => (P0_ k_ ∨ w.heap.size ≤ k_) ∧ k_ ≠ gb145) (.slice A35 y154.length c35) y154) := ⟨by rw [← hq_]; exact (by (with_reducible repeat (first | apply Kd.V_alloc | apply Kd.V_drewN | apply Kd.V_drew)); exact HO158.out)⟩; have n2_ : Aside0 (Kd.V (Kd.int .u8) 5 wc w.heap.size (fun k_ => (P0_ k_ ∨ w.heap.size ≤ k_) ∧ k_ ≠ gb145) (.slice (some ad148) l0.length c0) l0) := ⟨by rw [← hq_]; exact (by (with_reducible repeat (first | apply Kd.V_alloc | apply Kd.V_drewN | apply Kd.V_drew)); exact HO_0.out)⟩; have n3_ : Aside0 (wc.heap[gb145]? = some (.cells #[.int .i64 0, .int .i64 0, .slice none 0 0] 32 (0, 0))) := ⟨by rw [← hq_]; exact (by (with_reducible repeat (first | refine blk_drewN ?_ _ | refine blk_drew ?_ | refine blk_alloc ?_ _)); exact BK145.out)⟩; have n4_ : Aside0 (Below w.heap.size w wc) := ⟨by rw [← hq_]; exact (by repeat (first | (with_reducible first | exact HB.out | apply below_alloc | apply pw_below_drewN | apply below_drew1 | refine below_set ?_ GE145.out) | exact HB.out))⟩; clear HO153 HO158 HO_0 BK145 HB hq_; have HO153 := n0_; have HO158 := n1_; have HO_0 := n2_; have BK145 := n3_; have HB := n4_; clear n0_ n1_ n2_ n3_ n4_))) | ((with_reducible refine gate_callee (f := 16) rfl ?_); refine goesL_ (some 53) rfl rfl Try.func16 (by kernel_rfl) rfl #[.slice (some ad148) y149.length c0] rfl (by (try simp only [List.map_toArray, List.map_cons, List.map_nil]); first | done | rfl | (simp only [List.length_drop, List.length_take]; rfl)) ?_; (with_reducible refine (batch_Sum.calls _ _ y149 t160 _ ?side1 ?side2 A25.out).mono ?_); (case side1 => repeat (first | exact (Kd.V_reads' HO153.out).2.2 | (with_reducible refine Kd.C_alloc ?_ _) | (with_reducible refine Kd.C_drewN ?_ _) | (with_reducible refine Kd.C_drew ?_))); (case side2 => exact (Kd.V_reads' HO153.out).2.1); rintro e w36 ⟨rfl, hb⟩; refine ⟨_, rfl, ?_⟩; have n0_ := Aside0.mk (Kd.V_below (by (with_reducible repeat (first | apply Kd.V_alloc | apply Kd.V_drewN | apply Kd.V_drew)); exact HO_0.out) hb); have n1_ := Aside0.mk (Kd.V_below (by (with_reducible repeat (first | apply Kd.V_alloc | apply Kd.V_drewN | apply Kd.V_drew)); exact HO153.out) hb); have n2_ := Aside0.mk (Kd.V_below (by (with_reducible repeat (first | apply Kd.V_alloc | apply Kd.V_drewN | apply Kd.V_drew)); exact HO158.out) hb); have n3_ := Aside0.mk (blk_below (g := gb145) (o := .cells #[.int .i64 0, .int .i64 0, .slice none 0 0] 32 (0, 0)) (by (with_reducible repeat (first | refine blk_drewN ?_ _ | refine blk_drew ?_ | refine blk_alloc ?_ _)); exact BK145.out) hb); have n4_ := Aside0.mk (below_step (by repeat (first | (with_reducible first | exact HB.out | apply below_alloc | apply pw_below_drewN | apply below_drew1 | refine below_set ?_ GE145.out) | exact HB.out)) hb); clear HO_0; clear HO153; clear HO158; clear BK145; clear HB; have HO_0 := n0_; have HO153 := n1_; have HO158 := n2_; have BK145 := n3_; have HB := n4_; clear n0_ n1_ n2_ n3_ n4_; (try clear hb); (try clear hb2); (try clear hk); (try clear hi)))
                                    have n0_ := Aside0.mk (Kd.V_drew HO_0.out)
                                    have n1_ := Aside0.mk (Kd.V_drew HO153.out)
                                    have n2_ := Aside0.mk (Kd.V_drew HO158.out)
                                    have n3_ := Aside0.mk (blk_drew BK145.out)
                                    have n4_ := Aside0.mk (below_drew1 HB.out)
                                    clear HO_0
                                    clear HO153
                                    clear HO158
                                    clear BK145
                                    clear HB
                                    have HO_0 := n0_
                                    have HO153 := n1_
                                    have HO158 := n2_
                                    have BK145 := n3_
                                    have HB := n4_
                                    clear n0_ n1_ n2_ n3_ n4_
                                    have q38 : (6 : Int) ≤ ((l0.length : Int) : Int) := of_decide_eq_true (by first | (with_reducible assumption) | assumption)
                                    obtain ⟨i038, hi038, _, hsz38, _⟩ := info_parts info5
                                    have hroom38 : l0.length ≤ c0 := (Kd.V_reads' HO_0.out).2.1
                                    have hC38 : Kd.F (Kd.int .u8) _ _ (some ad148) l0.length l0 := (Kd.V_at (base := w.heap.size) HO_0.out).2.2
                                    have ql38 : (2 : Int) ≤ (6 : Int) := (by omega)
                                    have hcut38 := cut_mid (P := Try.prog) 25 5 .i64 .i64 Try.underlying25 hi038 1 hsz38 (some ad148) l0.length c0 2 6 (by omega) ql38 q38 hroom38
                                    have hr38 := Kd.F_mid (lo := (2 : Int).toNat) (hi := (6 : Int).toNat) (c := c0) hC38 (by omega) (by omega) hroom38
                                    obtain ⟨A38, hA38⟩ : ∃ A1_q, A1_q = (if c0 = (2 : Int).toNat then (some ad148) else ((some ad148) : Option Addr).map (·.add ((2 : Int).toNat * 1))) := ⟨_, rfl⟩
                                    obtain ⟨c38, hc38⟩ : ∃ c1_q, c1_q = c0 - (2 : Int).toNat := ⟨_, rfl⟩
                                    have hy38 : y161.length = (6 : Int).toNat - (2 : Int).toNat := (by rw [Ny161.out, List.length_drop, List.length_take] <;> omega)
                                    rw [show ((l0).take (6 : Int).toNat).drop (2 : Int).toNat = y161 from Ny161.out.symm] at hr38
                                    replace hr38 : Kd.F (Kd.int .u8) _ _ A38 y161.length y161 := (by rw [hA38]; exact hr38)
                                    rw [← hy38, ← hA38, ← hc38] at hcut38
                                    have HO165 := Aside0.mk (show Kd.V (Kd.int .u8) 5 _ w.heap.size _ (.slice A38 y161.length c38) y161 from Kd.V_mk (by rw [hy38, hc38]; exact Nat.sub_le_sub_right (Nat.le_trans (by omega) hroom38) _) hr38)
                                    have HC165 := Aside0.mk (show y161.length ≤ c38 from by rw [hy38, hc38]; exact Nat.sub_le_sub_right (Nat.le_trans (by omega) hroom38) _)
                                    clear hr38 hC38 hroom38 hi038 hsz38 hc38
                                    have KY38 := Aside0.mk hy38
                                    have KA38 := Aside0.mk hA38
                                    clear hy38 hA38
                                    replace q38 := eq_true q38
                                    have q39 : (10 : Int) ≤ ((l0.length : Int) : Int) := of_decide_eq_true (by first | (with_reducible assumption) | assumption)
                                    obtain ⟨i039, hi039, _, hsz39, _⟩ := info_parts info5
                                    have hroom39 : l0.length ≤ c0 := (Kd.V_reads' HO_0.out).2.1
                                    have hC39 : Kd.F (Kd.int .u8) _ _ (some ad148) l0.length l0 := (Kd.V_at (base := w.heap.size) HO_0.out).2.2
                                    have ql39 : (6 : Int) ≤ (10 : Int) := (by omega)
                                    have hcut39 := cut_mid (P := Try.prog) 25 5 .i64 .i64 Try.underlying25 hi039 1 hsz39 (some ad148) l0.length c0 6 10 (by omega) ql39 q39 hroom39
                                    have hr39 := Kd.F_mid (lo := (6 : Int).toNat) (hi := (10 : Int).toNat) (c := c0) hC39 (by omega) (by omega) hroom39
                                    obtain ⟨A39, hA39⟩ : ∃ A1_q, A1_q = (if c0 = (6 : Int).toNat then (some ad148) else ((some ad148) : Option Addr).map (·.add ((6 : Int).toNat * 1))) := ⟨_, rfl⟩
                                    obtain ⟨c39, hc39⟩ : ∃ c1_q, c1_q = c0 - (6 : Int).toNat := ⟨_, rfl⟩
                                    have hy39 : y167.length = (10 : Int).toNat - (6 : Int).toNat := (by rw [Ny167.out, List.length_drop, List.length_take] <;> omega)
                                    rw [show ((l0).take (10 : Int).toNat).drop (6 : Int).toNat = y167 from Ny167.out.symm] at hr39
                                    replace hr39 : Kd.F (Kd.int .u8) _ _ A39 y167.length y167 := (by rw [hA39]; exact hr39)
                                    rw [← hy39, ← hA39, ← hc39] at hcut39
                                    have HO171 := Aside0.mk (show Kd.V (Kd.int .u8) 5 _ w.heap.size _ (.slice A39 y167.length c39) y167 from Kd.V_mk (by rw [hy39, hc39]; exact Nat.sub_le_sub_right (Nat.le_trans (by omega) hroom39) _) hr39)
                                    have HC171 := Aside0.mk (show y167.length ≤ c39 from by rw [hy39, hc39]; exact Nat.sub_le_sub_right (Nat.le_trans (by omega) hroom39) _)
                                    clear hr39 hC39 hroom39 hi039 hsz39 hc39
                                    have KY39 := Aside0.mk hy39
                                    have KA39 := Aside0.mk hA39
                                    clear hy39 hA39
                                    replace q39 := eq_true q39
                                    refine start_ (n := 9) (S := fun w' => True) (ds := []) #[false, false, false, false, false, false, false, false, false] (by kernel_rfl) rfl rfl trivial (fun hHeld => ?_); refine with_tabW batch_Get.tab13 batch_Get.bits13 (fun HT_ HW_ => ?_)
                                    generalize w36.drew = w37 at HO_0 HO153 HO158 BK145 HB HO165 HO171 hHeld ⊢
                                    refine pure_ (i := 0) (N := some 56) (v := ?_) (a' := ?_) #[true, false, false, false, false, false, false, false, false] rfl rfl (any_of HT_.out (by kernel_rfl)) (fun _ _ _ h => h) (Or.inl ⟨by rfl, ?_⟩) ?_ ?_
                                    rotate_left
                                    · intro w'
                                      go_simp
                                      with_reducible rfl
                                    rotate_left
                                    · simp only [Act.put, List.setIfInBounds_toArray, List.set_cons_zero, List.set_cons_succ, i64_w, i32_w]
                                      rfl
                                    refine pure_ (i := 1) (N := some 57) (v := ?_) (a' := ?_) #[true, true, false, false, false, false, false, false, false] rfl rfl (any_of HT_.out (by kernel_rfl)) (fun _ _ _ h => h) (Or.inl ⟨by rfl, ?_⟩) ?_ ?_
                                    rotate_left
                                    · intro w'
                                      go_simp
                                      with_reducible rfl
                                    rotate_left
                                    · simp only [Act.put, List.setIfInBounds_toArray, List.set_cons_zero, List.set_cons_succ, i64_w, i32_w]
                                      rfl
                                    refine pure_ (i := 3) (N := some 59) (v := ?_) (a' := ?_) #[true, true, false, true, false, false, false, false, false] rfl rfl (any_of HT_.out (by kernel_rfl)) (fun _ _ _ h => h) (Or.inl ⟨by rfl, ?_⟩) ?_ ?_
                                    rotate_left
                                    · intro w'
                                      go_simp
                                      with_reducible rfl
                                    rotate_left
                                    · simp only [Act.put, List.setIfInBounds_toArray, List.set_cons_zero, List.set_cons_succ, i64_w, i32_w]
                                      rfl
                                    refine pure_ (i := 4) (N := some 60) (v := ?_) (a' := ?_) #[true, true, false, true, true, false, false, false, false] rfl rfl (any_of HT_.out (by kernel_rfl)) (fun _ _ _ h => h) (Or.inl ⟨by rfl, ?_⟩) ?_ ?_
                                    rotate_left
                                    · intro w'
                                      go_simp
                                      with_reducible rfl
                                    rotate_left
                                    · simp only [Act.put, List.setIfInBounds_toArray, List.set_cons_zero, List.set_cons_succ, i64_w, i32_w]
                                      rfl
                                    refine join_ (σ := Nat) 1 #[true, true, true, true, true, true, true, true, false] (fun s_ => [(58, .int .i64 t166), (61, .int .i64 t172), (6, .pointer (some ⟨s_, 0, none⟩)), (62, .agg #[.int .i64 t166, .int .i64 t172, .slice none 0 0])]) (fun s_ w' => (Kd.V (Kd.int .u8) 5 w' w.heap.size (fun k_ => (P0_ k_ ∨ w.heap.size ≤ k_) ∧ k_ ≠ gb145 ∧ k_ ≠ s_) (.slice (some ad148) y149.length c0) y149) ∧ (Kd.V (Kd.int .u8) 5 w' w.heap.size (fun k_ => (P0_ k_ ∨ w.heap.size ≤ k_) ∧ k_ ≠ gb145 ∧ k_ ≠ s_) (.slice A35 y154.length c35) y154) ∧ (Kd.V (Kd.int .u8) 5 w' w.heap.size (fun k_ => (P0_ k_ ∨ w.heap.size ≤ k_) ∧ k_ ≠ gb145 ∧ k_ ≠ s_) (.slice A38 y161.length c38) y161) ∧ (Kd.V (Kd.int .u8) 5 w' w.heap.size (fun k_ => (P0_ k_ ∨ w.heap.size ≤ k_) ∧ k_ ≠ gb145 ∧ k_ ≠ s_) (.slice A39 y167.length c39) y167) ∧ (Kd.V (Kd.int .u8) 5 w' w.heap.size (fun k_ => (P0_ k_ ∨ w.heap.size ≤ k_) ∧ k_ ≠ gb145 ∧ k_ ≠ s_) (.slice (some ad148) l0.length c0) l0) ∧ (w'.heap[gb145]? = some (.cells #[.int .i64 0, .int .i64 0, .slice none 0 0] 32 (0, 0))) ∧ (w'.heap[s_]? = some (.cells #[.int .i64 0, .int .i64 0, .slice none 0 0] 32 (0, 0))) ∧ (w.heap.size ≤ s_) ∧ (w.heap.size ≤ s_) ∧ (gb145 ≠ s_) ∧ (s_ ≠ gb145) ∧ (Below w.heap.size w w')) ?_ ?_
                                    rotate_left
                                    · intro hCont
                                      refine two_ (i := 2) (j := 7) (Ni := some 58) (Nj := some 6) #[true, true, true, true, true, false, false, false, false] #[true, true, false, true, true, false, false, true, false] rfl rfl rfl rfl (two_of HT_.out (by kernel_rfl)) (by decide) (by decide) (fun K hK => ?_) (fun K hK => ?_)
                                      · skip
                                        refine goes_ Try.func31 (by kernel_rfl) rfl #[.slice A38 y161.length c38] (by rfl) rfl rfl (by (try simp only [List.map_toArray, List.map_cons, List.map_nil]); first | done | rfl | (simp only [List.length_drop, List.length_take]; rfl)) ?_
                                        with_reducible refine (batch_get_int.calls kj4 _ _ y161 t166 _ ?side1 ?side2 A29.out).mono ?_
                                        (case side1 => repeat (first | exact (Kd.V_reads' HO165.out).2.2 | (with_reducible refine Kd.C_alloc ?_ _) | (with_reducible refine Kd.C_drewN ?_ _) | (with_reducible refine Kd.C_drew ?_)))
                                        (case side2 => exact (Kd.V_reads' HO165.out).2.1)
                                        rintro e w' ⟨rfl, ⟨nd, rfl⟩⟩
                                        refine ⟨_, rfl, ?_⟩
                                        refine hK.out _ _ trivial (fun hHeld => ?_)
                                        clear hK K
                                        refine norm_ (a' := ?_) ?_ ?_
                                        rotate_left
                                        · show Act.put _ (some 58) _ = _
                                          simp only [Act.put, List.setIfInBounds_toArray, List.set_cons_zero, List.set_cons_succ, i64_w, i32_w]
                                          rfl
                                        refine two_ (i := 5) (j := 7) (Ni := some 61) (Nj := some 6) #[true, true, true, true, true, true, false, false, false] #[true, true, true, true, true, false, false, true, false] rfl rfl rfl rfl (two_of HT_.out (by kernel_rfl)) (by decide) (by decide) (fun K hK => ?_) (fun K hK => ?_)
                                        · skip
                                          refine goes_ Try.func31 (by kernel_rfl) rfl #[.slice A39 y167.length c39] (by rfl) rfl rfl (by (try simp only [List.map_toArray, List.map_cons, List.map_nil]); first | done | rfl | (simp only [List.length_drop, List.length_take]; rfl)) ?_
                                          with_reducible refine (batch_get_int.calls kj4 _ _ y167 t172 _ ?side1 ?side2 A32.out).mono ?_
                                          (case side1 => repeat (first | exact (Kd.V_reads' HO171.out).2.2 | (with_reducible refine Kd.C_alloc ?_ _) | (with_reducible refine Kd.C_drewN ?_ _) | (with_reducible refine Kd.C_drew ?_)))
                                          (case side2 => exact (Kd.V_reads' HO171.out).2.1)
                                          rintro e w' ⟨rfl, ⟨nd, rfl⟩⟩
                                          refine ⟨_, rfl, ?_⟩
                                          refine hK.out _ _ trivial (fun hHeld => ?_)
                                          clear hK K
                                          refine norm_ (a' := ?_) ?_ ?_
                                          rotate_left
                                          · show Act.put _ (some 61) _ = _
                                            simp only [Act.put, List.setIfInBounds_toArray, List.set_cons_zero, List.set_cons_succ, i64_w, i32_w]
                                            rfl
                                          refine pure_ (i := 6) (N := some 62) (v := ?_) (a' := ?_) #[true, true, true, true, true, true, true, false, false] rfl rfl (any_of HT_.out (by kernel_rfl)) (fun _ _ _ h => h) (Or.inl ⟨by rfl, ?_⟩) ?_ ?_
                                          rotate_left
                                          · intro w'
                                            go_simp
                                            with_reducible rfl
                                          rotate_left
                                          · simp only [Act.put, List.setIfInBounds_toArray, List.set_cons_zero, List.set_cons_succ, i64_w, i32_w]
                                            rfl
                                          refine one_ (i := 7) (N := some 6) #[true, true, true, true, true, true, true, true, false] rfl rfl (one_of HT_.out (by kernel_rfl)) (by decide) (fun K hK => ?_)
                                          refine box_step ?hg (N := 6) ?hd (cs := #[.int .i64 0, .int .i64 0, .slice none 0 0]) (t := 32) ?hr ?_; (case hd => rfl); (case hg => rfl); (case hr => first | (go_simp; done) | (go_simp; rfl))
                                          intro gb173 hg w40 hbox hb
                                          have n0_ := Aside0.mk (Kd.V_below (Kd.V_elderB (by (with_reducible repeat (first | apply Kd.V_alloc | apply Kd.V_drewN | apply Kd.V_drew)); exact HO_0.out) gb173 (Nat.le_of_eq hg.symm)) hb)
                                          have n1_ := Aside0.mk (Kd.V_below (Kd.V_elderB (by (with_reducible repeat (first | apply Kd.V_alloc | apply Kd.V_drewN | apply Kd.V_drew)); exact HO153.out) gb173 (Nat.le_of_eq hg.symm)) hb)
                                          have n2_ := Aside0.mk (Kd.V_below (Kd.V_elderB (by (with_reducible repeat (first | apply Kd.V_alloc | apply Kd.V_drewN | apply Kd.V_drew)); exact HO158.out) gb173 (Nat.le_of_eq hg.symm)) hb)
                                          have n3_ := Aside0.mk (Kd.V_below (Kd.V_elderB (by (with_reducible repeat (first | apply Kd.V_alloc | apply Kd.V_drewN | apply Kd.V_drew)); exact HO165.out) gb173 (Nat.le_of_eq hg.symm)) hb)
                                          have n4_ := Aside0.mk (Kd.V_below (Kd.V_elderB (by (with_reducible repeat (first | apply Kd.V_alloc | apply Kd.V_drewN | apply Kd.V_drew)); exact HO171.out) gb173 (Nat.le_of_eq hg.symm)) hb)
                                          have n5_ := Aside0.mk (blk_below (g := gb145) (o := .cells #[.int .i64 0, .int .i64 0, .slice none 0 0] 32 (0, 0)) (by (with_reducible repeat (first | refine blk_drewN ?_ _ | refine blk_drew ?_ | refine blk_alloc ?_ _)); exact BK145.out) hb)
                                          have n6_ := Aside0.mk (below_step (by repeat (first | (with_reducible first | exact HB.out | apply below_alloc | apply pw_below_drewN | apply below_drew1 | refine below_set ?_ GE145.out) | exact HB.out)) hb)
                                          have n7_ := Aside0.mk (hbox)
                                          have n8_ := Aside0.mk ((by rw [hg]; exact (below_size (by repeat (first | (with_reducible first | exact HB.out | apply below_alloc | apply pw_below_drewN | apply below_drew1 | refine below_set ?_ GE145.out) | exact HB.out))) : w.heap.size ≤ gb173))
                                          have n9_ := Aside0.mk ((by rw [hg]; exact (below_size (by repeat (first | (with_reducible first | exact HB.out | apply below_alloc | apply pw_below_drewN | apply below_drew1 | refine below_set ?_ GE145.out) | exact HB.out))) : w.heap.size ≤ gb173))
                                          have n10_ := Aside0.mk ((by rw [hg]; exact Nat.ne_of_lt (blk_lt (g := gb145) (o := .cells #[.int .i64 0, .int .i64 0, .slice none 0 0] 32 (0, 0)) (by (with_reducible repeat (first | refine blk_drewN ?_ _ | refine blk_drew ?_ | refine blk_alloc ?_ _)); exact BK145.out)) : gb145 ≠ gb173))
                                          have n11_ := Aside0.mk ((by rw [hg]; exact Nat.ne_of_gt (blk_lt (g := gb145) (o := .cells #[.int .i64 0, .int .i64 0, .slice none 0 0] 32 (0, 0)) (by (with_reducible repeat (first | refine blk_drewN ?_ _ | refine blk_drew ?_ | refine blk_alloc ?_ _)); exact BK145.out)) : gb173 ≠ gb145))
                                          clear HO_0
                                          clear HO153
                                          clear HO158
                                          clear HO165
                                          clear HO171
                                          clear BK145
                                          clear HB
                                          have HO_0 := n0_
                                          have HO153 := n1_
                                          have HO158 := n2_
                                          have HO165 := n3_
                                          have HO171 := n4_
                                          have BK145 := n5_
                                          have HB := n6_
                                          have BK173 := n7_
                                          have GW173 := n8_
                                          have GE173 := n9_
                                          have NB145_173 := n10_
                                          have NB173_145 := n11_
                                          clear n0_ n1_ n2_ n3_ n4_ n5_ n6_ n7_ n8_ n9_ n10_ n11_
                                          clear hb hbox hg
                                          refine hK.out _ _ trivial (fun hHeld => ?_)
                                          clear hK K
                                          refine norm_ (a' := ?_) ?_ ?_
                                          rotate_left
                                          · show Act.put _ (some 6) _ = _
                                            simp only [Act.put, List.setIfInBounds_toArray, List.set_cons_zero, List.set_cons_succ, i64_w, i32_w]
                                            rfl
                                          exact norm_ (by simp only [putAll, Act.put, List.setIfInBounds_toArray, List.set_cons_zero, List.set_cons_succ]) (hCont (gb173) _ ⟨(by (with_reducible repeat (first | apply Kd.V_alloc | apply Kd.V_drewN | apply Kd.V_drew)); exact Kd.V_mono HO153.out (fun _ hk => ⟨hk.1.1, ⟨hk.1.2, hk.2⟩⟩)), (by (with_reducible repeat (first | apply Kd.V_alloc | apply Kd.V_drewN | apply Kd.V_drew)); exact Kd.V_mono HO158.out (fun _ hk => ⟨hk.1.1, ⟨hk.1.2, hk.2⟩⟩)), (by (with_reducible repeat (first | apply Kd.V_alloc | apply Kd.V_drewN | apply Kd.V_drew)); exact Kd.V_mono HO165.out (fun _ hk => ⟨hk.1.1, ⟨hk.1.2, hk.2⟩⟩)), (by (with_reducible repeat (first | apply Kd.V_alloc | apply Kd.V_drewN | apply Kd.V_drew)); exact Kd.V_mono HO171.out (fun _ hk => ⟨hk.1.1, ⟨hk.1.2, hk.2⟩⟩)), (by (with_reducible repeat (first | apply Kd.V_alloc | apply Kd.V_drewN | apply Kd.V_drew)); exact Kd.V_mono HO_0.out (fun _ hk => ⟨hk.1.1, ⟨hk.1.2, hk.2⟩⟩)), (by (with_reducible repeat (first | refine blk_drewN ?_ _ | refine blk_drew ?_ | refine blk_alloc ?_ _)); exact BK145.out), (by (with_reducible repeat (first | refine blk_drewN ?_ _ | refine blk_drew ?_ | refine blk_alloc ?_ _)); exact BK173.out), GW173.out, GE173.out, NB145_173.out, NB173_145.out, (by repeat (first | (with_reducible first | exact HB.out | apply below_alloc | apply pw_below_drewN | apply below_drew1 | refine below_set ?_ GE145.out | refine below_set ?_ GE173.out) | exact HB.out))⟩)
                                        · skip
                                          refine box_step ?hg (N := 6) ?hd (cs := #[.int .i64 0, .int .i64 0, .slice none 0 0]) (t := 32) ?hr ?_; (case hd => rfl); (case hg => rfl); (case hr => first | (go_simp; done) | (go_simp; rfl))
                                          intro gb173 hg w40 hbox hb
                                          have n0_ := Aside0.mk (Kd.V_below (Kd.V_elderB (by (with_reducible repeat (first | apply Kd.V_alloc | apply Kd.V_drewN | apply Kd.V_drew)); exact HO_0.out) gb173 (Nat.le_of_eq hg.symm)) hb)
                                          have n1_ := Aside0.mk (Kd.V_below (Kd.V_elderB (by (with_reducible repeat (first | apply Kd.V_alloc | apply Kd.V_drewN | apply Kd.V_drew)); exact HO153.out) gb173 (Nat.le_of_eq hg.symm)) hb)
                                          have n2_ := Aside0.mk (Kd.V_below (Kd.V_elderB (by (with_reducible repeat (first | apply Kd.V_alloc | apply Kd.V_drewN | apply Kd.V_drew)); exact HO158.out) gb173 (Nat.le_of_eq hg.symm)) hb)
                                          have n3_ := Aside0.mk (Kd.V_below (Kd.V_elderB (by (with_reducible repeat (first | apply Kd.V_alloc | apply Kd.V_drewN | apply Kd.V_drew)); exact HO165.out) gb173 (Nat.le_of_eq hg.symm)) hb)
                                          have n4_ := Aside0.mk (Kd.V_below (Kd.V_elderB (by (with_reducible repeat (first | apply Kd.V_alloc | apply Kd.V_drewN | apply Kd.V_drew)); exact HO171.out) gb173 (Nat.le_of_eq hg.symm)) hb)
                                          have n5_ := Aside0.mk (blk_below (g := gb145) (o := .cells #[.int .i64 0, .int .i64 0, .slice none 0 0] 32 (0, 0)) (by (with_reducible repeat (first | refine blk_drewN ?_ _ | refine blk_drew ?_ | refine blk_alloc ?_ _)); exact BK145.out) hb)
                                          have n6_ := Aside0.mk (below_step (by repeat (first | (with_reducible first | exact HB.out | apply below_alloc | apply pw_below_drewN | apply below_drew1 | refine below_set ?_ GE145.out) | exact HB.out)) hb)
                                          have n7_ := Aside0.mk (hbox)
                                          have n8_ := Aside0.mk ((by rw [hg]; exact (below_size (by repeat (first | (with_reducible first | exact HB.out | apply below_alloc | apply pw_below_drewN | apply below_drew1 | refine below_set ?_ GE145.out) | exact HB.out))) : w.heap.size ≤ gb173))
                                          have n9_ := Aside0.mk ((by rw [hg]; exact (below_size (by repeat (first | (with_reducible first | exact HB.out | apply below_alloc | apply pw_below_drewN | apply below_drew1 | refine below_set ?_ GE145.out) | exact HB.out))) : w.heap.size ≤ gb173))
                                          have n10_ := Aside0.mk ((by rw [hg]; exact Nat.ne_of_lt (blk_lt (g := gb145) (o := .cells #[.int .i64 0, .int .i64 0, .slice none 0 0] 32 (0, 0)) (by (with_reducible repeat (first | refine blk_drewN ?_ _ | refine blk_drew ?_ | refine blk_alloc ?_ _)); exact BK145.out)) : gb145 ≠ gb173))
                                          have n11_ := Aside0.mk ((by rw [hg]; exact Nat.ne_of_gt (blk_lt (g := gb145) (o := .cells #[.int .i64 0, .int .i64 0, .slice none 0 0] 32 (0, 0)) (by (with_reducible repeat (first | refine blk_drewN ?_ _ | refine blk_drew ?_ | refine blk_alloc ?_ _)); exact BK145.out)) : gb173 ≠ gb145))
                                          clear HO_0
                                          clear HO153
                                          clear HO158
                                          clear HO165
                                          clear HO171
                                          clear BK145
                                          clear HB
                                          have HO_0 := n0_
                                          have HO153 := n1_
                                          have HO158 := n2_
                                          have HO165 := n3_
                                          have HO171 := n4_
                                          have BK145 := n5_
                                          have HB := n6_
                                          have BK173 := n7_
                                          have GW173 := n8_
                                          have GE173 := n9_
                                          have NB145_173 := n10_
                                          have NB173_145 := n11_
                                          clear n0_ n1_ n2_ n3_ n4_ n5_ n6_ n7_ n8_ n9_ n10_ n11_
                                          clear hb hbox hg
                                          refine hK.out _ _ trivial (fun hHeld => ?_)
                                          clear hK K
                                          refine norm_ (a' := ?_) ?_ ?_
                                          rotate_left
                                          · show Act.put _ (some 6) _ = _
                                            simp only [Act.put, List.setIfInBounds_toArray, List.set_cons_zero, List.set_cons_succ, i64_w, i32_w]
                                            rfl
                                          refine one_ (i := 5) (N := some 61) #[true, true, true, true, true, true, false, true, false] rfl rfl (one_of HT_.out (by kernel_rfl)) (by decide) (fun K hK => ?_)
                                          refine goes_ Try.func31 (by kernel_rfl) rfl #[.slice A39 y167.length c39] (by rfl) rfl rfl (by (try simp only [List.map_toArray, List.map_cons, List.map_nil]); first | done | rfl | (simp only [List.length_drop, List.length_take]; rfl)) ?_
                                          with_reducible refine (batch_get_int.calls kj4 _ _ y167 t172 _ ?side1 ?side2 A32.out).mono ?_
                                          (case side1 => repeat (first | exact (Kd.V_reads' HO171.out).2.2 | (with_reducible refine Kd.C_alloc ?_ _) | (with_reducible refine Kd.C_drewN ?_ _) | (with_reducible refine Kd.C_drew ?_)))
                                          (case side2 => exact (Kd.V_reads' HO171.out).2.1)
                                          rintro e w' ⟨rfl, ⟨nd, rfl⟩⟩
                                          refine ⟨_, rfl, ?_⟩
                                          refine hK.out _ _ trivial (fun hHeld => ?_)
                                          clear hK K
                                          refine norm_ (a' := ?_) ?_ ?_
                                          rotate_left
                                          · show Act.put _ (some 61) _ = _
                                            simp only [Act.put, List.setIfInBounds_toArray, List.set_cons_zero, List.set_cons_succ, i64_w, i32_w]
                                            rfl
                                          refine pure_ (i := 6) (N := some 62) (v := ?_) (a' := ?_) #[true, true, true, true, true, true, true, true, false] rfl rfl (any_of HT_.out (by kernel_rfl)) (fun _ _ _ h => h) (Or.inl ⟨by rfl, ?_⟩) ?_ ?_
                                          rotate_left
                                          · intro w'
                                            go_simp
                                            with_reducible rfl
                                          rotate_left
                                          · simp only [Act.put, List.setIfInBounds_toArray, List.set_cons_zero, List.set_cons_succ, i64_w, i32_w]
                                            rfl
                                          exact norm_ (by simp only [putAll, Act.put, List.setIfInBounds_toArray, List.set_cons_zero, List.set_cons_succ]) (hCont (gb173) _ ⟨(by (with_reducible repeat (first | apply Kd.V_alloc | apply Kd.V_drewN | apply Kd.V_drew)); exact Kd.V_mono HO153.out (fun _ hk => ⟨hk.1.1, ⟨hk.1.2, hk.2⟩⟩)), (by (with_reducible repeat (first | apply Kd.V_alloc | apply Kd.V_drewN | apply Kd.V_drew)); exact Kd.V_mono HO158.out (fun _ hk => ⟨hk.1.1, ⟨hk.1.2, hk.2⟩⟩)), (by (with_reducible repeat (first | apply Kd.V_alloc | apply Kd.V_drewN | apply Kd.V_drew)); exact Kd.V_mono HO165.out (fun _ hk => ⟨hk.1.1, ⟨hk.1.2, hk.2⟩⟩)), (by (with_reducible repeat (first | apply Kd.V_alloc | apply Kd.V_drewN | apply Kd.V_drew)); exact Kd.V_mono HO171.out (fun _ hk => ⟨hk.1.1, ⟨hk.1.2, hk.2⟩⟩)), (by (with_reducible repeat (first | apply Kd.V_alloc | apply Kd.V_drewN | apply Kd.V_drew)); exact Kd.V_mono HO_0.out (fun _ hk => ⟨hk.1.1, ⟨hk.1.2, hk.2⟩⟩)), (by (with_reducible repeat (first | refine blk_drewN ?_ _ | refine blk_drew ?_ | refine blk_alloc ?_ _)); exact BK145.out), (by (with_reducible repeat (first | refine blk_drewN ?_ _ | refine blk_drew ?_ | refine blk_alloc ?_ _)); exact BK173.out), GW173.out, GE173.out, NB145_173.out, NB173_145.out, (by repeat (first | (with_reducible first | exact HB.out | apply below_alloc | apply pw_below_drewN | apply below_drew1 | refine below_set ?_ GE145.out | refine below_set ?_ GE173.out) | exact HB.out))⟩)
                                      · skip
                                        refine box_step ?hg (N := 6) ?hd (cs := #[.int .i64 0, .int .i64 0, .slice none 0 0]) (t := 32) ?hr ?_; (case hd => rfl); (case hg => rfl); (case hr => first | (go_simp; done) | (go_simp; rfl))
                                        intro gb173 hg w40 hbox hb
                                        have n0_ := Aside0.mk (Kd.V_below (Kd.V_elderB (by (with_reducible repeat (first | apply Kd.V_alloc | apply Kd.V_drewN | apply Kd.V_drew)); exact HO_0.out) gb173 (Nat.le_of_eq hg.symm)) hb)
                                        have n1_ := Aside0.mk (Kd.V_below (Kd.V_elderB (by (with_reducible repeat (first | apply Kd.V_alloc | apply Kd.V_drewN | apply Kd.V_drew)); exact HO153.out) gb173 (Nat.le_of_eq hg.symm)) hb)
                                        have n2_ := Aside0.mk (Kd.V_below (Kd.V_elderB (by (with_reducible repeat (first | apply Kd.V_alloc | apply Kd.V_drewN | apply Kd.V_drew)); exact HO158.out) gb173 (Nat.le_of_eq hg.symm)) hb)
                                        have n3_ := Aside0.mk (Kd.V_below (Kd.V_elderB (by (with_reducible repeat (first | apply Kd.V_alloc | apply Kd.V_drewN | apply Kd.V_drew)); exact HO165.out) gb173 (Nat.le_of_eq hg.symm)) hb)
                                        have n4_ := Aside0.mk (Kd.V_below (Kd.V_elderB (by (with_reducible repeat (first | apply Kd.V_alloc | apply Kd.V_drewN | apply Kd.V_drew)); exact HO171.out) gb173 (Nat.le_of_eq hg.symm)) hb)
                                        have n5_ := Aside0.mk (blk_below (g := gb145) (o := .cells #[.int .i64 0, .int .i64 0, .slice none 0 0] 32 (0, 0)) (by (with_reducible repeat (first | refine blk_drewN ?_ _ | refine blk_drew ?_ | refine blk_alloc ?_ _)); exact BK145.out) hb)
                                        have n6_ := Aside0.mk (below_step (by repeat (first | (with_reducible first | exact HB.out | apply below_alloc | apply pw_below_drewN | apply below_drew1 | refine below_set ?_ GE145.out) | exact HB.out)) hb)
                                        have n7_ := Aside0.mk (hbox)
                                        have n8_ := Aside0.mk ((by rw [hg]; exact (below_size (by repeat (first | (with_reducible first | exact HB.out | apply below_alloc | apply pw_below_drewN | apply below_drew1 | refine below_set ?_ GE145.out) | exact HB.out))) : w.heap.size ≤ gb173))
                                        have n9_ := Aside0.mk ((by rw [hg]; exact (below_size (by repeat (first | (with_reducible first | exact HB.out | apply below_alloc | apply pw_below_drewN | apply below_drew1 | refine below_set ?_ GE145.out) | exact HB.out))) : w.heap.size ≤ gb173))
                                        have n10_ := Aside0.mk ((by rw [hg]; exact Nat.ne_of_lt (blk_lt (g := gb145) (o := .cells #[.int .i64 0, .int .i64 0, .slice none 0 0] 32 (0, 0)) (by (with_reducible repeat (first | refine blk_drewN ?_ _ | refine blk_drew ?_ | refine blk_alloc ?_ _)); exact BK145.out)) : gb145 ≠ gb173))
                                        have n11_ := Aside0.mk ((by rw [hg]; exact Nat.ne_of_gt (blk_lt (g := gb145) (o := .cells #[.int .i64 0, .int .i64 0, .slice none 0 0] 32 (0, 0)) (by (with_reducible repeat (first | refine blk_drewN ?_ _ | refine blk_drew ?_ | refine blk_alloc ?_ _)); exact BK145.out)) : gb173 ≠ gb145))
                                        clear HO_0
                                        clear HO153
                                        clear HO158
                                        clear HO165
                                        clear HO171
                                        clear BK145
                                        clear HB
                                        have HO_0 := n0_
                                        have HO153 := n1_
                                        have HO158 := n2_
                                        have HO165 := n3_
                                        have HO171 := n4_
                                        have BK145 := n5_
                                        have HB := n6_
                                        have BK173 := n7_
                                        have GW173 := n8_
                                        have GE173 := n9_
                                        have NB145_173 := n10_
                                        have NB173_145 := n11_
                                        clear n0_ n1_ n2_ n3_ n4_ n5_ n6_ n7_ n8_ n9_ n10_ n11_
                                        clear hb hbox hg
                                        refine hK.out _ _ trivial (fun hHeld => ?_)
                                        clear hK K
                                        refine norm_ (a' := ?_) ?_ ?_
                                        rotate_left
                                        · show Act.put _ (some 6) _ = _
                                          simp only [Act.put, List.setIfInBounds_toArray, List.set_cons_zero, List.set_cons_succ, i64_w, i32_w]
                                          rfl
                                        refine one_ (i := 2) (N := some 58) #[true, true, true, true, true, false, false, true, false] rfl rfl (one_of HT_.out (by kernel_rfl)) (by decide) (fun K hK => ?_)
                                        refine goes_ Try.func31 (by kernel_rfl) rfl #[.slice A38 y161.length c38] (by rfl) rfl rfl (by (try simp only [List.map_toArray, List.map_cons, List.map_nil]); first | done | rfl | (simp only [List.length_drop, List.length_take]; rfl)) ?_
                                        with_reducible refine (batch_get_int.calls kj4 _ _ y161 t166 _ ?side1 ?side2 A29.out).mono ?_
                                        (case side1 => repeat (first | exact (Kd.V_reads' HO165.out).2.2 | (with_reducible refine Kd.C_alloc ?_ _) | (with_reducible refine Kd.C_drewN ?_ _) | (with_reducible refine Kd.C_drew ?_)))
                                        (case side2 => exact (Kd.V_reads' HO165.out).2.1)
                                        rintro e w' ⟨rfl, ⟨nd, rfl⟩⟩
                                        refine ⟨_, rfl, ?_⟩
                                        refine hK.out _ _ trivial (fun hHeld => ?_)
                                        clear hK K
                                        refine norm_ (a' := ?_) ?_ ?_
                                        rotate_left
                                        · show Act.put _ (some 58) _ = _
                                          simp only [Act.put, List.setIfInBounds_toArray, List.set_cons_zero, List.set_cons_succ, i64_w, i32_w]
                                          rfl
                                        refine one_ (i := 5) (N := some 61) #[true, true, true, true, true, true, false, true, false] rfl rfl (one_of HT_.out (by kernel_rfl)) (by decide) (fun K hK => ?_)
                                        refine goes_ Try.func31 (by kernel_rfl) rfl #[.slice A39 y167.length c39] (by rfl) rfl rfl (by (try simp only [List.map_toArray, List.map_cons, List.map_nil]); first | done | rfl | (simp only [List.length_drop, List.length_take]; rfl)) ?_
                                        with_reducible refine (batch_get_int.calls kj4 _ _ y167 t172 _ ?side1 ?side2 A32.out).mono ?_
                                        (case side1 => repeat (first | exact (Kd.V_reads' HO171.out).2.2 | (with_reducible refine Kd.C_alloc ?_ _) | (with_reducible refine Kd.C_drewN ?_ _) | (with_reducible refine Kd.C_drew ?_)))
                                        (case side2 => exact (Kd.V_reads' HO171.out).2.1)
                                        rintro e w' ⟨rfl, ⟨nd, rfl⟩⟩
                                        refine ⟨_, rfl, ?_⟩
                                        refine hK.out _ _ trivial (fun hHeld => ?_)
                                        clear hK K
                                        refine norm_ (a' := ?_) ?_ ?_
                                        rotate_left
                                        · show Act.put _ (some 61) _ = _
                                          simp only [Act.put, List.setIfInBounds_toArray, List.set_cons_zero, List.set_cons_succ, i64_w, i32_w]
                                          rfl
                                        refine pure_ (i := 6) (N := some 62) (v := ?_) (a' := ?_) #[true, true, true, true, true, true, true, true, false] rfl rfl (any_of HT_.out (by kernel_rfl)) (fun _ _ _ h => h) (Or.inl ⟨by rfl, ?_⟩) ?_ ?_
                                        rotate_left
                                        · intro w'
                                          go_simp
                                          with_reducible rfl
                                        rotate_left
                                        · simp only [Act.put, List.setIfInBounds_toArray, List.set_cons_zero, List.set_cons_succ, i64_w, i32_w]
                                          rfl
                                        exact norm_ (by simp only [putAll, Act.put, List.setIfInBounds_toArray, List.set_cons_zero, List.set_cons_succ]) (hCont (gb173) _ ⟨(by (with_reducible repeat (first | apply Kd.V_alloc | apply Kd.V_drewN | apply Kd.V_drew)); exact Kd.V_mono HO153.out (fun _ hk => ⟨hk.1.1, ⟨hk.1.2, hk.2⟩⟩)), (by (with_reducible repeat (first | apply Kd.V_alloc | apply Kd.V_drewN | apply Kd.V_drew)); exact Kd.V_mono HO158.out (fun _ hk => ⟨hk.1.1, ⟨hk.1.2, hk.2⟩⟩)), (by (with_reducible repeat (first | apply Kd.V_alloc | apply Kd.V_drewN | apply Kd.V_drew)); exact Kd.V_mono HO165.out (fun _ hk => ⟨hk.1.1, ⟨hk.1.2, hk.2⟩⟩)), (by (with_reducible repeat (first | apply Kd.V_alloc | apply Kd.V_drewN | apply Kd.V_drew)); exact Kd.V_mono HO171.out (fun _ hk => ⟨hk.1.1, ⟨hk.1.2, hk.2⟩⟩)), (by (with_reducible repeat (first | apply Kd.V_alloc | apply Kd.V_drewN | apply Kd.V_drew)); exact Kd.V_mono HO_0.out (fun _ hk => ⟨hk.1.1, ⟨hk.1.2, hk.2⟩⟩)), (by (with_reducible repeat (first | refine blk_drewN ?_ _ | refine blk_drew ?_ | refine blk_alloc ?_ _)); exact BK145.out), (by (with_reducible repeat (first | refine blk_drewN ?_ _ | refine blk_drew ?_ | refine blk_alloc ?_ _)); exact BK173.out), GW173.out, GE173.out, NB145_173.out, NB173_145.out, (by repeat (first | (with_reducible first | exact HB.out | apply below_alloc | apply pw_below_drewN | apply below_drew1 | refine below_set ?_ GE145.out | refine below_set ?_ GE173.out) | exact HB.out))⟩)
                                    rintro gb173 w41 ⟨h0_, h1_, h2_, h3_, h4_, h5_, h6_, h7_, h8_, h9_, h10_, h11_⟩
                                    have n0_ : Aside0 (Kd.V (Kd.int .u8) 5 w41 w.heap.size (fun k_ => (P0_ k_ ∨ w.heap.size ≤ k_) ∧ k_ ≠ gb145 ∧ k_ ≠ gb173) (.slice (some ad148) y149.length c0) y149) := ⟨h0_⟩
                                    have n1_ : Aside0 (Kd.V (Kd.int .u8) 5 w41 w.heap.size (fun k_ => (P0_ k_ ∨ w.heap.size ≤ k_) ∧ k_ ≠ gb145 ∧ k_ ≠ gb173) (.slice A35 y154.length c35) y154) := ⟨h1_⟩
                                    have n2_ : Aside0 (Kd.V (Kd.int .u8) 5 w41 w.heap.size (fun k_ => (P0_ k_ ∨ w.heap.size ≤ k_) ∧ k_ ≠ gb145 ∧ k_ ≠ gb173) (.slice A38 y161.length c38) y161) := ⟨h2_⟩
                                    have n3_ : Aside0 (Kd.V (Kd.int .u8) 5 w41 w.heap.size (fun k_ => (P0_ k_ ∨ w.heap.size ≤ k_) ∧ k_ ≠ gb145 ∧ k_ ≠ gb173) (.slice A39 y167.length c39) y167) := ⟨h3_⟩
                                    have n4_ : Aside0 (Kd.V (Kd.int .u8) 5 w41 w.heap.size (fun k_ => (P0_ k_ ∨ w.heap.size ≤ k_) ∧ k_ ≠ gb145 ∧ k_ ≠ gb173) (.slice (some ad148) l0.length c0) l0) := ⟨h4_⟩
                                    have n5_ : Aside0 (w41.heap[gb145]? = some (.cells #[.int .i64 0, .int .i64 0, .slice none 0 0] 32 (0, 0))) := ⟨h5_⟩
                                    have n6_ : Aside0 (w41.heap[gb173]? = some (.cells #[.int .i64 0, .int .i64 0, .slice none 0 0] 32 (0, 0))) := ⟨h6_⟩
                                    have n7_ : Aside0 (w.heap.size ≤ gb173) := ⟨h7_⟩
                                    have n8_ : Aside0 (w.heap.size ≤ gb173) := ⟨h8_⟩
                                    have n9_ : Aside0 (gb145 ≠ gb173) := ⟨h9_⟩
                                    have n10_ : Aside0 (gb173 ≠ gb145) := ⟨h10_⟩
                                    have n11_ : Aside0 (Below w.heap.size w w41) := ⟨h11_⟩
                                    clear HO_0
                                    clear HO153
                                    clear HO158
                                    clear BK145
                                    clear HB
                                    clear h0_ h1_ h2_ h3_ h4_ h5_ h6_ h7_ h8_ h9_ h10_ h11_
                                    have HO153 := n0_
                                    have HO158 := n1_
                                    have HO165 := n2_
                                    have HO171 := n3_
                                    have HO_0 := n4_
                                    have BK145 := n5_
                                    have BK173 := n6_
                                    have GW173 := n7_
                                    have GE173 := n8_
                                    have NB145_173 := n9_
                                    have NB173_145 := n10_
                                    have HB := n11_
                                    clear n0_ n1_ n2_ n3_ n4_ n5_ n6_ n7_ n8_ n9_ n10_ n11_
                                    have hHeld := trivial
                                    refine norm_ (a' := ?_) ?_ ?_
                                    rotate_left
                                    · simp only [putAll, Act.put, List.setIfInBounds_toArray, List.set_cons_zero, List.set_cons_succ]
                                      rfl
                                    refine one_ (i := 8) (N := none) #[true, true, true, true, true, true, true, true, true] rfl rfl (one_of HT_.out (by kernel_rfl)) (by decide) (fun K hK => ?_)
                                    have hs42 : w41.cell? ⟨gb173, 0, none⟩ = some (.int .i64 0) := (blk_cell BK173.out 0).trans rfl
                                    have hfs42 := blk_frozen BK173.out 0
                                    have hns42_0 := NB145_173.out
                                    have hms42_0 := NB173_145.out
                                    have hs43 : w41.cell? ⟨gb173, 1, none⟩ = some (.int .i64 0) := (blk_cell BK173.out 1).trans rfl
                                    have hfs43 := blk_frozen BK173.out 1
                                    have hns43_0 := NB145_173.out
                                    have hms43_0 := NB173_145.out
                                    have hs44 : w41.cell? ⟨gb173, 2, none⟩ = some (.slice none 0 0) := (blk_cell BK173.out 2).trans rfl
                                    have hfs44 := blk_frozen BK173.out 2
                                    have hns44_0 := NB145_173.out
                                    have hms44_0 := NB173_145.out
                                    refine skip_ (w1 := ?_) (by rfl) rfl ?_ ?_
                                    rotate_left
                                    · go_simp
                                      rfl
                                    refine hK.out _ _ trivial (fun hHeld => ?_)
                                    clear hK K
                                    refine done_ (done_of HT_.out (by kernel_rfl)) ?_
                                    have n0_ : Aside0 (Kd.V (Kd.int .u8) 5 (((w41.setCell ⟨gb173, 0, none⟩ (.int .i64 t166)).setCell ⟨gb173, 1, none⟩ (.int .i64 t172)).setCell ⟨gb173, 2, none⟩ (.slice none 0 0)) w.heap.size (fun k_ => (P0_ k_ ∨ w.heap.size ≤ k_) ∧ k_ ≠ gb145 ∧ k_ ≠ gb173) (.slice (some ad148) l0.length c0) l0) := ⟨by (with_reducible repeat (first | apply Kd.V_alloc | apply Kd.V_drewN | apply Kd.V_drew)); exact Kd.V_mono (Kd.V_far (p := ⟨gb173, 2, none⟩) (Kd.V_far (p := ⟨gb173, 1, none⟩) (Kd.V_far (p := ⟨gb173, 0, none⟩) (Kd.V_mono HO_0.out (fun k_ hk => (⟨hk, hk.2.2⟩ : _ ∧ k_ ≠ gb173))) (fun _ hk => hk.2) (.int .i64 t166)) (fun _ hk => hk.2) (.int .i64 t172)) (fun _ hk => hk.2) (.slice none 0 0)) (fun _ hk => ⟨hk.1.1, ⟨hk.1.2.1, hk.1.2.2⟩⟩)⟩
                                    have n1_ : Aside0 (Kd.V (Kd.int .u8) 5 (((w41.setCell ⟨gb173, 0, none⟩ (.int .i64 t166)).setCell ⟨gb173, 1, none⟩ (.int .i64 t172)).setCell ⟨gb173, 2, none⟩ (.slice none 0 0)) w.heap.size (fun k_ => (P0_ k_ ∨ w.heap.size ≤ k_) ∧ k_ ≠ gb145 ∧ k_ ≠ gb173) (.slice (some ad148) y149.length c0) y149) := ⟨by (with_reducible repeat (first | apply Kd.V_alloc | apply Kd.V_drewN | apply Kd.V_drew)); exact Kd.V_mono (Kd.V_far (p := ⟨gb173, 2, none⟩) (Kd.V_far (p := ⟨gb173, 1, none⟩) (Kd.V_far (p := ⟨gb173, 0, none⟩) (Kd.V_mono HO153.out (fun k_ hk => (⟨hk, hk.2.2⟩ : _ ∧ k_ ≠ gb173))) (fun _ hk => hk.2) (.int .i64 t166)) (fun _ hk => hk.2) (.int .i64 t172)) (fun _ hk => hk.2) (.slice none 0 0)) (fun _ hk => ⟨hk.1.1, ⟨hk.1.2.1, hk.1.2.2⟩⟩)⟩
                                    have n2_ : Aside0 (Kd.V (Kd.int .u8) 5 (((w41.setCell ⟨gb173, 0, none⟩ (.int .i64 t166)).setCell ⟨gb173, 1, none⟩ (.int .i64 t172)).setCell ⟨gb173, 2, none⟩ (.slice none 0 0)) w.heap.size (fun k_ => (P0_ k_ ∨ w.heap.size ≤ k_) ∧ k_ ≠ gb145 ∧ k_ ≠ gb173) (.slice A35 y154.length c35) y154) := ⟨by (with_reducible repeat (first | apply Kd.V_alloc | apply Kd.V_drewN | apply Kd.V_drew)); exact Kd.V_mono (Kd.V_far (p := ⟨gb173, 2, none⟩) (Kd.V_far (p := ⟨gb173, 1, none⟩) (Kd.V_far (p := ⟨gb173, 0, none⟩) (Kd.V_mono HO158.out (fun k_ hk => (⟨hk, hk.2.2⟩ : _ ∧ k_ ≠ gb173))) (fun _ hk => hk.2) (.int .i64 t166)) (fun _ hk => hk.2) (.int .i64 t172)) (fun _ hk => hk.2) (.slice none 0 0)) (fun _ hk => ⟨hk.1.1, ⟨hk.1.2.1, hk.1.2.2⟩⟩)⟩
                                    have n3_ : Aside0 (Kd.V (Kd.int .u8) 5 (((w41.setCell ⟨gb173, 0, none⟩ (.int .i64 t166)).setCell ⟨gb173, 1, none⟩ (.int .i64 t172)).setCell ⟨gb173, 2, none⟩ (.slice none 0 0)) w.heap.size (fun k_ => (P0_ k_ ∨ w.heap.size ≤ k_) ∧ k_ ≠ gb145 ∧ k_ ≠ gb173) (.slice A38 y161.length c38) y161) := ⟨by (with_reducible repeat (first | apply Kd.V_alloc | apply Kd.V_drewN | apply Kd.V_drew)); exact Kd.V_mono (Kd.V_far (p := ⟨gb173, 2, none⟩) (Kd.V_far (p := ⟨gb173, 1, none⟩) (Kd.V_far (p := ⟨gb173, 0, none⟩) (Kd.V_mono HO165.out (fun k_ hk => (⟨hk, hk.2.2⟩ : _ ∧ k_ ≠ gb173))) (fun _ hk => hk.2) (.int .i64 t166)) (fun _ hk => hk.2) (.int .i64 t172)) (fun _ hk => hk.2) (.slice none 0 0)) (fun _ hk => ⟨hk.1.1, ⟨hk.1.2.1, hk.1.2.2⟩⟩)⟩
                                    have n4_ : Aside0 (Kd.V (Kd.int .u8) 5 (((w41.setCell ⟨gb173, 0, none⟩ (.int .i64 t166)).setCell ⟨gb173, 1, none⟩ (.int .i64 t172)).setCell ⟨gb173, 2, none⟩ (.slice none 0 0)) w.heap.size (fun k_ => (P0_ k_ ∨ w.heap.size ≤ k_) ∧ k_ ≠ gb145 ∧ k_ ≠ gb173) (.slice A39 y167.length c39) y167) := ⟨by (with_reducible repeat (first | apply Kd.V_alloc | apply Kd.V_drewN | apply Kd.V_drew)); exact Kd.V_mono (Kd.V_far (p := ⟨gb173, 2, none⟩) (Kd.V_far (p := ⟨gb173, 1, none⟩) (Kd.V_far (p := ⟨gb173, 0, none⟩) (Kd.V_mono HO171.out (fun k_ hk => (⟨hk, hk.2.2⟩ : _ ∧ k_ ≠ gb173))) (fun _ hk => hk.2) (.int .i64 t166)) (fun _ hk => hk.2) (.int .i64 t172)) (fun _ hk => hk.2) (.slice none 0 0)) (fun _ hk => ⟨hk.1.1, ⟨hk.1.2.1, hk.1.2.2⟩⟩)⟩
                                    have n5_ : Aside0 ((((w41.setCell ⟨gb173, 0, none⟩ (.int .i64 t166)).setCell ⟨gb173, 1, none⟩ (.int .i64 t172)).setCell ⟨gb173, 2, none⟩ (.slice none 0 0)).heap[gb145]? = some (.cells #[.int .i64 0, .int .i64 0, .slice none 0 0] 32 (0, 0))) := ⟨by (with_reducible repeat (first | refine blk_drewN ?_ _ | refine blk_drew ?_ | refine blk_alloc ?_ _)); refine blk_far ?_ NB145_173.out _; (with_reducible repeat (first | refine blk_drewN ?_ _ | refine blk_drew ?_ | refine blk_alloc ?_ _)); refine blk_far ?_ NB145_173.out _; (with_reducible repeat (first | refine blk_drewN ?_ _ | refine blk_drew ?_ | refine blk_alloc ?_ _)); refine blk_far ?_ NB145_173.out _; (with_reducible repeat (first | refine blk_drewN ?_ _ | refine blk_drew ?_ | refine blk_alloc ?_ _)); exact BK145.out⟩
                                    have n6_ : Aside0 ((((w41.setCell ⟨gb173, 0, none⟩ (.int .i64 t166)).setCell ⟨gb173, 1, none⟩ (.int .i64 t172)).setCell ⟨gb173, 2, none⟩ (.slice none 0 0)).heap[gb173]? = some (.cells #[.int .i64 t166, .int .i64 t172, .slice none 0 0] 32 (0, 0))) := ⟨by (with_reducible repeat (first | refine blk_drewN ?_ _ | refine blk_drew ?_ | refine blk_alloc ?_ _)); refine blk_put (cs := #[.int .i64 t166, .int .i64 t172, .slice none 0 0]) ?_ 2 _ rfl; (with_reducible repeat (first | refine blk_drewN ?_ _ | refine blk_drew ?_ | refine blk_alloc ?_ _)); refine blk_put (cs := #[.int .i64 t166, .int .i64 0, .slice none 0 0]) ?_ 1 _ rfl; (with_reducible repeat (first | refine blk_drewN ?_ _ | refine blk_drew ?_ | refine blk_alloc ?_ _)); refine blk_put (cs := #[.int .i64 0, .int .i64 0, .slice none 0 0]) ?_ 0 _ rfl; (with_reducible repeat (first | refine blk_drewN ?_ _ | refine blk_drew ?_ | refine blk_alloc ?_ _)); exact BK173.out⟩
                                    have n7_ : Aside0 (Below w.heap.size w (((w41.setCell ⟨gb173, 0, none⟩ (.int .i64 t166)).setCell ⟨gb173, 1, none⟩ (.int .i64 t172)).setCell ⟨gb173, 2, none⟩ (.slice none 0 0))) := ⟨by repeat (first | (with_reducible first | exact HB.out | apply below_alloc | apply pw_below_drewN | apply below_drew1 | refine below_set ?_ GE145.out | refine below_set ?_ GE173.out) | exact HB.out)⟩
                                    (try clear HO_0)
                                    (try clear HO153)
                                    (try clear HO158)
                                    (try clear HO165)
                                    (try clear HO171)
                                    (try clear BK145)
                                    (try clear BK173)
                                    (try clear HB)
                                    generalize (((w41.setCell ⟨gb173, 0, none⟩ (.int .i64 t166)).setCell ⟨gb173, 1, none⟩ (.int .i64 t172)).setCell ⟨gb173, 2, none⟩ (.slice none 0 0)) = w45 at n0_ n1_ n2_ n3_ n4_ n5_ n6_ n7_ ⊢
                                    have HO_0 := n0_
                                    have HO153 := n1_
                                    have HO158 := n2_
                                    have HO165 := n3_
                                    have HO171 := n4_
                                    have BK145 := n5_
                                    have BK173 := n6_
                                    have HB := n7_
                                    clear n0_ n1_ n2_ n3_ n4_ n5_ n6_ n7_
                                    have q46 : (11 : Int) ≤ ((y149.length : Int) : Int) := of_decide_eq_true (by first | (with_reducible assumption) | assumption)
                                    obtain ⟨i046, hi046, _, hsz46, _⟩ := info_parts info5
                                    have hroom46 : y149.length ≤ c0 := (Kd.V_reads' HO153.out).2.1
                                    have hC46 : Kd.F (Kd.int .u8) _ _ (some ad148) y149.length y149 := (Kd.V_at (base := w.heap.size) HO153.out).2.2
                                    have hcut46 := cut_from (P := Try.prog) 25 5 .i64 Try.underlying25 hi046 1 hsz46 (some ad148) y149.length c0 11 (by omega) q46
                                    have hr46 := Kd.F_cut (m := (11 : Int).toNat) (c := c0) hC46 (by omega) hroom46
                                    obtain ⟨A46, hA46⟩ : ∃ A1_q, A1_q = (if c0 = (11 : Int).toNat then (some ad148) else ((some ad148) : Option Addr).map (·.add ((11 : Int).toNat * 1))) := ⟨_, rfl⟩
                                    obtain ⟨c46, hc46⟩ : ∃ c1_q, c1_q = c0 - (11 : Int).toNat := ⟨_, rfl⟩
                                    have hy46 : y174.length = y149.length - (11 : Int).toNat := (by rw [Ny174.out, List.length_drop] <;> omega)
                                    rw [show (y149).drop (11 : Int).toNat = y174 from Ny174.out.symm] at hr46
                                    replace hr46 : Kd.F (Kd.int .u8) _ _ A46 y174.length y174 := (by rw [hA46]; exact hr46)
                                    rw [← hy46, ← hA46, ← hc46] at hcut46
                                    have HO178 := Aside0.mk (show Kd.V (Kd.int .u8) 5 _ w.heap.size _ (.slice A46 y174.length c46) y174 from Kd.V_mk (by rw [hy46, hc46]; exact Nat.sub_le_sub_right hroom46 _) hr46)
                                    have HC178 := Aside0.mk (show y174.length ≤ c46 from by rw [hy46, hc46]; exact Nat.sub_le_sub_right hroom46 _)
                                    clear hr46 hC46 hroom46 hi046 hsz46 hc46
                                    have KY46 := Aside0.mk hy46
                                    have KA46 := Aside0.mk hA46
                                    clear hy46 hA46
                                    replace q46 := eq_true q46
                                    try go_wp2
                                    go_loopg [7] kj4 (fun kq v7 w' => ∃ (x7_2 : List Int) (x174002_2 : List (S53)) (u174002 : Value), Aside0 (batch_Get.l0 kq x7_2 t166 t172 x174002_2 = some (r1, r2, r3, r4)) ∧ Aside0 (kq ≤ kj4) ∧ Aside0 (Kd.V (Kd.int .u8) 5 w' w.heap.size (fun k_ => (P0_ k_ ∨ w.heap.size ≤ k_) ∧ some k_ ≠ (u174002 : Value).ownBlock ∧ k_ ≠ gb145 ∧ k_ ≠ gb173) v7 x7_2) ∧ Aside0 (Kd.R k53 53 w' w.heap.size (fun k_ => (w.heap.size ≤ k_)) u174002 x174002_2) ∧ Aside0 (w'.heap[gb145]? = some (.cells #[.int .i64 0, .int .i64 0, (.slice none 0 0)] 32 (0, 0))) ∧ Aside0 (w'.heap[gb173]? = some (.cells #[.int .i64 t166, .int .i64 t172, u174002] 32 (0, 0))) ∧ Aside0 (Below w.heap.size w w'))
                                    case atStart => exact ⟨(y174), (([] : List (S53))), (.slice none 0 0), H', ⟨Nat.le_refl _⟩, ⟨by (with_reducible repeat (first | apply Kd.V_alloc | apply Kd.V_drewN | apply Kd.V_drew)); exact Kd.V_mono HO178.out (fun _ hk => ⟨hk.1, ⟨(by simp [Value.ownBlock]), ⟨hk.2.1, hk.2.2⟩⟩⟩)⟩, ⟨by first | exact Kd.R_nil _ _ _ _ _ | exact Kd.N_nil _ _ _ _ _ | exact Kd.V_nil _ _ _ _ _ | exact Kd.Q_nil _ _ _ _ _ | exact Kd.S_nil _ _ _ _ _⟩, ⟨by (with_reducible repeat (first | refine blk_drewN ?_ _ | refine blk_drew ?_ | refine blk_alloc ?_ _)); exact BK145.out⟩, ⟨by (with_reducible repeat (first | refine blk_drewN ?_ _ | refine blk_drew ?_ | refine blk_alloc ?_ _)); exact BK173.out⟩, ⟨by repeat (first | (with_reducible first | exact HB.out | apply below_alloc | apply pw_below_drewN | apply below_drew1 | refine below_set ?_ GE145.out | refine below_set ?_ GE173.out) | exact HB.out)⟩⟩
                                    case round =>
                                      clear H'
                                      try clear c1
                                      try clear p1
                                      try clear q1
                                      try clear hx1
                                      try clear qi1
                                      try clear c2
                                      try clear p2
                                      try clear q2
                                      try clear c3
                                      try clear q3
                                      try clear c4
                                      try clear q4
                                      try clear p6
                                      try clear p14
                                      try clear q14
                                      try clear hx14
                                      try clear qi14
                                      try clear c16
                                      try clear c16b0
                                      try clear c19
                                      try clear c19b0
                                      try clear q20
                                      try clear c22
                                      try clear c22b0
                                      try clear c22b1
                                      try clear c23
                                      try clear c23b0
                                      try clear c23b1
                                      try clear c26
                                      try clear c26b0
                                      try clear c26b1
                                      try clear c27
                                      try clear c27b0
                                      try clear c27b1
                                      try clear c28
                                      try clear c28b0
                                      try clear c28b1
                                      try clear c30
                                      try clear c30b0
                                      try clear c30b1
                                      try clear c31
                                      try clear c31b0
                                      try clear c31b1
                                      try clear c33
                                      try clear c33b0
                                      try clear c33b1
                                      try clear q34
                                      try clear c35
                                      try clear q35
                                      try clear c38
                                      try clear q38
                                      try clear c39
                                      try clear q39
                                      try clear c46
                                      try clear q46
                                      try clear hcz21_0
                                      try clear hcz21_1
                                      try clear hcz21_2
                                      try clear hfz18_2
                                      try clear hfz21_0
                                      try clear hfz21_1
                                      try clear hfz21_2
                                      try clear hx148_0
                                      try clear p148
                                      try clear q035
                                      try clear q148
                                      try clear q20
                                      try clear q34
                                      try clear q35
                                      try clear q38
                                      try clear q39
                                      try clear q46
                                      obtain ⟨x7_2, x174002_2, u174002, HA, HK2, HO_7, HO_174002, BK145, BK173, HB⟩ := hrel
                                      cases gk with
                                      | zero => exact absurd HA.out (by simp [batch_Get.l0])
                                      | succ k2 =>
                                        have H := HA.out
                                        clear HA
                                        simp only [batch_Get.l0] at H
                                        by_cases c47 : (x7_2.length : Int) > 0
                                        · rw [if_pos c47] at H
                                          have c47b0 : decide (0 < (x7_2.length : Int)) = true := decide_eq_true c47
                                          have c47b1 : decide (0 < x7_2.length) = true := decide_eq_true (by omega)
                                          clear c47
                                          by_cases c48 : 0 < (x7_2.length : Int)
                                          · rw [if_pos c48] at H
                                            have c48b0 : decide (0 < (x7_2.length : Int)) = true := decide_eq_true c48
                                            have c48b1 : decide (0 < x7_2.length) = true := decide_eq_true (by omega)
                                            clear c48
                                            by_cases c49 : 1 ≤ 9
                                            · rw [if_pos c49] at H
                                              have c49b0 := eq_true c49
                                              have c49b1 : decide (1 ≤ 9) = true := decide_eq_true c49
                                              clear c49
                                              by_cases c50 : 9 ≤ (x7_2.length : Int)
                                              · rw [if_pos c50] at H
                                                have c50b0 := eq_true c50
                                                have c50b1 : decide (9 ≤ (x7_2.length : Int)) = true := decide_eq_true c50
                                                clear c50
                                                obtain ⟨y180, hy180⟩ : ∃ y_ : List Int, y_ = ((x7_2.take 9).drop 1) := ⟨_, rfl⟩
                                                replace H : ((batch_get_int64.f k2 y180).bind fun t185 => (if x174002_2.length < 8796093022208 then (batch_Get.l0 k2 (x7_2.drop 9) t166 t172 (x174002_2 ++ [(⟨wrap64 (rd x7_2 0), t185⟩ : S53)])) else (none))) = some (r1, r2, r3, r4) := by first | (rw [hy180]; with_reducible exact H) | (have H2_ := (Option.bind_some _ _).symm.trans H; rw [hy180]; with_reducible exact H2_) | (have H2_ := (Option.bind_some _ _).symm.trans H; with_reducible exact H2_) | with_reducible exact H | (rw [hy180]; exact H) | exact H
                                                have Ny180 := Aside0.mk hy180
                                                clear hy180
                                                replace H := Option.bind_eq_some_iff.mp H
                                                obtain ⟨t185, A510, H⟩ := H
                                                replace H : (if x174002_2.length < 8796093022208 then (batch_Get.l0 k2 (x7_2.drop 9) t166 t172 (x174002_2 ++ [(⟨wrap64 (rd x7_2 0), t185⟩ : S53)])) else (none)) = some (r1, r2, r3, r4) := H
                                                have A51 := Aside0.mk A510
                                                clear A510
                                                by_cases c52 : x174002_2.length < 8796093022208
                                                · rw [if_pos c52] at H
                                                  have LMc52 := Aside0.mk c52
                                                  clear c52
                                                  obtain ⟨y186, hy186⟩ : ∃ y_ : List (S53), y_ = (x174002_2 ++ [(⟨wrap64 (rd x7_2 0), t185⟩ : S53)]) := ⟨_, rfl⟩
                                                  replace H : (batch_Get.l0 k2 (x7_2.drop 9) t166 t172 y186) = some (r1, r2, r3, r4) := by first | (rw [hy186]; with_reducible exact H) | (have H2_ := (Option.bind_some _ _).symm.trans H; rw [hy186]; with_reducible exact H2_) | (have H2_ := (Option.bind_some _ _).symm.trans H; with_reducible exact H2_) | with_reducible exact H | (rw [hy186]; exact H) | exact H
                                                  have Ny186 := Aside0.mk hy186
                                                  clear hy186
                                                  have c53b0 := eq_true (of_decide_eq_true (by first | (with_reducible assumption) | assumption) : 9 ≤ (x7_2.length : Int))
                                                  obtain ⟨y189, hy189⟩ : ∃ y_ : List Int, y_ = (x7_2.drop 9) := ⟨_, rfl⟩
                                                  replace H : (batch_Get.l0 k2 y189 t166 t172 y186) = some (r1, r2, r3, r4) := by first | (rw [hy189]; with_reducible exact H) | (have H2_ := (Option.bind_some _ _).symm.trans H; rw [hy189]; with_reducible exact H2_) | (have H2_ := (Option.bind_some _ _).symm.trans H; with_reducible exact H2_) | with_reducible exact H | (rw [hy189]; exact H) | exact H
                                                  have Ny189 := Aside0.mk hy189
                                                  clear hy189
                                                  have H' := Aside0.mk H
                                                  clear H
                                                  obtain ⟨Ao54, co54, eo54⟩ := Kd.V_slice HO_7.out
                                                  subst eo54
                                                  try go_wp2
                                                  have n0_ := Aside0.mk (Kd.V_drew HO_7.out)
                                                  have n1_ := Aside0.mk (Kd.R_drew HO_174002.out)
                                                  have n2_ := Aside0.mk (blk_drew BK145.out)
                                                  have n3_ := Aside0.mk (blk_drew BK173.out)
                                                  have n4_ := Aside0.mk (below_drew1 HB.out)
                                                  clear HO_7
                                                  clear HO_174002
                                                  clear BK145
                                                  clear BK173
                                                  clear HB
                                                  have HO_7 := n0_
                                                  have HO_174002 := n1_
                                                  have BK145 := n2_
                                                  have BK173 := n3_
                                                  have HB := n4_
                                                  clear n0_ n1_ n2_ n3_ n4_
                                                  have p179 : 0 ≤ (0 : Int) := (by omega)
                                                  have q179 : 0 < (x7_2.length : Int) := of_decide_eq_true (by first | (with_reducible assumption) | assumption)
                                                  obtain ⟨ad179, e179, hx179_0⟩ := Kd.at_int (Kd.V_reads' HO_7.out).2.2 0 p179 q179
                                                  cases e179
                                                  have qi179 : (0 < x7_2.length) = True := eq_true (by omega)
                                                  (try rw [show ((0 : Int)).toNat = 0 from rfl] at hx179_0)
                                                  (try rw [Addr.add_zero'] at hx179_0)
                                                  replace p179 := eq_true p179
                                                  replace q179 := eq_true q179
                                                  have q56 : (9 : Int) ≤ ((x7_2.length : Int) : Int) := of_decide_eq_true (by first | (with_reducible assumption) | assumption)
                                                  obtain ⟨i056, hi056, _, hsz56, _⟩ := info_parts info5
                                                  have hroom56 : x7_2.length ≤ co54 := (Kd.V_reads' HO_7.out).2.1
                                                  have hC56 : Kd.F (Kd.int .u8) _ _ (some ad179) x7_2.length x7_2 := (Kd.V_at (base := w.heap.size) HO_7.out).2.2
                                                  have ql56 : (1 : Int) ≤ (9 : Int) := (by omega)
                                                  have hcut56 := cut_mid (P := Try.prog) 25 5 .i64 .i64 Try.underlying25 hi056 1 hsz56 (some ad179) x7_2.length co54 1 9 (by omega) ql56 q56 hroom56
                                                  have hr56 := Kd.F_mid (lo := (1 : Int).toNat) (hi := (9 : Int).toNat) (c := co54) hC56 (by omega) (by omega) hroom56
                                                  obtain ⟨A56, hA56⟩ : ∃ A1_q, A1_q = (if co54 = (1 : Int).toNat then (some ad179) else ((some ad179) : Option Addr).map (·.add ((1 : Int).toNat * 1))) := ⟨_, rfl⟩
                                                  obtain ⟨c56, hc56⟩ : ∃ c1_q, c1_q = co54 - (1 : Int).toNat := ⟨_, rfl⟩
                                                  have hy56 : y180.length = (9 : Int).toNat - (1 : Int).toNat := (by rw [Ny180.out, List.length_drop, List.length_take] <;> omega)
                                                  rw [show ((x7_2).take (9 : Int).toNat).drop (1 : Int).toNat = y180 from Ny180.out.symm] at hr56
                                                  replace hr56 : Kd.F (Kd.int .u8) _ _ A56 y180.length y180 := (by rw [hA56]; exact hr56)
                                                  rw [← hy56, ← hA56, ← hc56] at hcut56
                                                  have HO184 := Aside0.mk (show Kd.V (Kd.int .u8) 5 _ w.heap.size _ (.slice A56 y180.length c56) y180 from Kd.V_mk (by rw [hy56, hc56]; exact Nat.sub_le_sub_right (Nat.le_trans (by omega) hroom56) _) hr56)
                                                  have HC184 := Aside0.mk (show y180.length ≤ c56 from by rw [hy56, hc56]; exact Nat.sub_le_sub_right (Nat.le_trans (by omega) hroom56) _)
                                                  clear hr56 hC56 hroom56 hi056 hsz56 hc56
                                                  have KY56 := Aside0.mk hy56
                                                  have KA56 := Aside0.mk hA56
                                                  clear hy56 hA56
                                                  replace q56 := eq_true q56
                                                  refine start_ (n := 14) (S := fun w' => w'.cell? ⟨gb173, 0, none⟩ = some (.int .i64 t166) ∧ w'.cell? ⟨gb173, 1, none⟩ = some (.int .i64 t172) ∧ w'.cell? ⟨gb173, 2, none⟩ = some (u174002) ∧ w'.cell? ad179 = some (.int .u8 (rd x7_2 0))) (ds := [11, 13]) #[false, false, false, false, false, false, false, false, false, false, false, false, false, false] (by kernel_rfl) rfl rfl ⟨(blk_cell BK173.out 0).trans rfl, (blk_cell BK173.out 1).trans rfl, (blk_cell BK173.out 2).trans rfl, hx179_0⟩ (fun hHeld => ?_); refine with_tabW batch_Get.tab17 batch_Get.bits17 (fun HT_ HW_ => ?_)
                                                  generalize wr.drew = w55 at HO_7 HO_174002 BK145 BK173 HB HO184 hx179_0 hHeld ⊢
                                                  refine pure_ (i := 0) (N := some 70) (v := ?_) (a' := ?_) #[true, false, false, false, false, false, false, false, false, false, false, false, false, false] rfl rfl (any_of HT_.out (by kernel_rfl)) (fun _ _ _ h => h) (Or.inl ⟨by rfl, ?_⟩) ?_ ?_
                                                  rotate_left
                                                  · intro w'
                                                    go_simp
                                                    with_reducible rfl
                                                  rotate_left
                                                  · simp only [Act.put, List.setIfInBounds_toArray, List.set_cons_zero, List.set_cons_succ, i64_w, i32_w]
                                                    rfl
                                                  refine pure_ (i := 2) (N := some 72) (v := ?_) (a' := ?_) #[true, false, true, false, false, false, false, false, false, false, false, false, false, false] rfl rfl (any_of HT_.out (by kernel_rfl)) (fun _ _ _ h => h) (Or.inl ⟨by rfl, ?_⟩) ?_ ?_
                                                  rotate_left
                                                  · intro w'
                                                    go_simp
                                                    with_reducible rfl
                                                  rotate_left
                                                  · simp only [Act.put, List.setIfInBounds_toArray, List.set_cons_zero, List.set_cons_succ, i64_w, i32_w]
                                                    rfl
                                                  refine pure_ (i := 3) (N := some 73) (v := ?_) (a' := ?_) #[true, false, true, true, false, false, false, false, false, false, false, false, false, false] rfl rfl (any_of HT_.out (by kernel_rfl)) (fun _ _ _ h => h) (Or.inl ⟨by rfl, ?_⟩) ?_ ?_
                                                  rotate_left
                                                  · intro w'
                                                    go_simp
                                                    with_reducible rfl
                                                  rotate_left
                                                  · simp only [Act.put, List.setIfInBounds_toArray, List.set_cons_zero, List.set_cons_succ, i64_w, i32_w]
                                                    rfl
                                                  refine pure_ (i := 6) (N := some 76) (v := ?_) (a' := ?_) #[true, false, true, true, false, false, true, false, false, false, false, false, false, false] rfl rfl (any_of HT_.out (by kernel_rfl)) (fun _ _ _ h => h) (Or.inl ⟨by rfl, ?_⟩) ?_ ?_
                                                  rotate_left
                                                  · intro w'
                                                    go_simp
                                                    with_reducible rfl
                                                  rotate_left
                                                  · simp only [Act.put, List.setIfInBounds_toArray, List.set_cons_zero, List.set_cons_succ, i64_w, i32_w]
                                                    rfl
                                                  refine pure_ (i := 7) (N := some 77) (v := ?_) (a' := ?_) #[true, false, true, true, false, false, true, true, false, false, false, false, false, false] rfl rfl (any_of HT_.out (by kernel_rfl)) (fun _ _ _ h => h) (Or.inl ⟨by rfl, ?_⟩) ?_ ?_
                                                  rotate_left
                                                  · intro w'
                                                    go_simp
                                                    with_reducible rfl
                                                  rotate_left
                                                  · simp only [Act.put, List.setIfInBounds_toArray, List.set_cons_zero, List.set_cons_succ, i64_w, i32_w]
                                                    rfl
                                                  refine take_ (i := 1) (N := some 71) (v := ?_) (a' := ?_) #[true, true, true, true, false, false, true, true, false, false, false, false, false, false] rfl rfl (take_ofW HT_.out HW_.out (by kernel_rfl)) (fun _ _ _ h => h) (Or.inl ⟨by rfl, ?_⟩) hHeld ?_ ?_
                                                  rotate_left
                                                  · rintro w' ⟨s0, s1, s2, s3⟩
                                                    go_simp
                                                    with_reducible rfl
                                                  rotate_left
                                                  · simp only [Act.put, List.setIfInBounds_toArray, List.set_cons_zero, List.set_cons_succ, i64_w, i32_w]
                                                    rfl
                                                  refine take_ (i := 4) (N := some 74) (v := ?_) (a' := ?_) #[true, true, true, true, true, false, true, true, false, false, false, false, false, false] rfl rfl (take_ofW HT_.out HW_.out (by kernel_rfl)) (fun _ _ _ h => h) (Or.inl ⟨by rfl, ?_⟩) hHeld ?_ ?_
                                                  rotate_left
                                                  · rintro w' ⟨s0, s1, s2, s3⟩
                                                    go_simp
                                                    with_reducible rfl
                                                  rotate_left
                                                  · simp only [Act.put, List.setIfInBounds_toArray, List.set_cons_zero, List.set_cons_succ, i64_w, i32_w]
                                                    rfl
                                                  refine pure_ (i := 5) (N := some 75) (v := ?_) (a' := ?_) #[true, true, true, true, true, true, true, true, false, false, false, false, false, false] rfl rfl (any_of HT_.out (by kernel_rfl)) (fun _ _ _ h => h) (Or.inl ⟨by rfl, ?_⟩) ?_ ?_
                                                  rotate_left
                                                  · intro w'
                                                    go_simp
                                                    with_reducible rfl
                                                  rotate_left
                                                  · simp only [Act.put, List.setIfInBounds_toArray, List.set_cons_zero, List.set_cons_succ, i64_w, i32_w]
                                                    rfl
                                                  refine one_ (i := 8) (N := some 78) #[true, true, true, true, true, true, true, true, true, false, false, false, false, false] rfl rfl (one_of HT_.out (by kernel_rfl)) (by decide) (fun K hK => ?_)
                                                  refine goes_ Try.func32 (by kernel_rfl) rfl #[.slice A56 y180.length c56] (by rfl) rfl rfl (by (try simp only [List.map_toArray, List.map_cons, List.map_nil]); first | done | rfl | (simp only [List.length_drop, List.length_take]; rfl)) ?_
                                                  with_reducible refine (batch_get_int64.calls k2 _ _ y180 t185 _ ?side1 ?side2 A51.out).mono ?_
                                                  (case side1 => repeat (first | exact (Kd.V_reads' HO184.out).2.2 | (with_reducible refine Kd.C_alloc ?_ _) | (with_reducible refine Kd.C_drewN ?_ _) | (with_reducible refine Kd.C_drew ?_)))
                                                  (case side2 => exact (Kd.V_reads' HO184.out).2.1)
                                                  rintro e w' ⟨rfl, ⟨nd, rfl⟩⟩
                                                  refine ⟨_, rfl, ?_⟩
                                                  refine hK.out _ _ ⟨(blk_cell BK173.out 0).trans rfl, (blk_cell BK173.out 1).trans rfl, (blk_cell BK173.out 2).trans rfl, hHeld.2.2.2⟩ (fun hHeld => ?_)
                                                  clear hK K
                                                  refine norm_ (a' := ?_) ?_ ?_
                                                  rotate_left
                                                  · show Act.put _ (some 78) _ = _
                                                    simp only [Act.put, List.setIfInBounds_toArray, List.set_cons_zero, List.set_cons_succ, i64_w, i32_w]
                                                    rfl
                                                  refine pure_ (i := 9) (N := some 79) (v := ?_) (a' := ?_) #[true, true, true, true, true, true, true, true, true, true, false, false, false, false] rfl rfl (any_of HT_.out (by kernel_rfl)) (fun _ _ _ h => h) (Or.inl ⟨by rfl, ?_⟩) ?_ ?_
                                                  rotate_left
                                                  · intro w'
                                                    go_simp
                                                    with_reducible rfl
                                                  rotate_left
                                                  · simp only [Act.put, List.setIfInBounds_toArray, List.set_cons_zero, List.set_cons_succ, i64_w, i32_w]
                                                    rfl
                                                  refine one_ (i := 10) (N := some 80) #[true, true, true, true, true, true, true, true, true, true, true, false, false, false] rfl rfl (one_of HT_.out (by kernel_rfl)) (by decide) (fun K hK => ?_)
                                                  refine value_ (w1 := ?_) (v := ?_) (by rfl) rfl ?_ ?_
                                                  rotate_left 2
                                                  · go_simp
                                                    constructor
                                                    · rfl
                                                    · rfl
                                                  refine hK.out _ _ ⟨(blk_cell (blk_alloc BK173.out _) 0).trans rfl, (blk_cell (blk_alloc BK173.out _) 1).trans rfl, (blk_cell (blk_alloc BK173.out _) 2).trans rfl, (World.cell?_alloc_lt _ _ _ (World.block_lt_of_cell? _ _ (hHeld.2.2.2))).trans (hHeld.2.2.2)⟩ (fun hHeld => ?_)
                                                  clear hK K
                                                  refine norm_ (a' := ?_) ?_ ?_
                                                  rotate_left
                                                  · show Act.put _ (some 80) _ = _
                                                    simp only [Act.put, List.setIfInBounds_toArray, List.set_cons_zero, List.set_cons_succ, i64_w, i32_w]
                                                    rfl
                                                  refine last_ (i := 11) (N := some 81) #[true, true, true, true, true, true, true, true, true, true, true, true, false, false] rfl rfl (one_of HT_.out (by kernel_rfl)) (by decide) (fun K hK => ?_)
                                                  refine Kd.R_append_step k53 (w0 := w) w.heap.size (by rfl) (.tmp 71) (.tmp 80) 30 53 (.agg #[(.int .i64 0), (.int .i64 0)]) 16 rfl Try.underlying30 info53 rfl (by decide) (by omega) u174002 x174002_2 (⟨wrap64 (rd x7_2 0), t185⟩ : S53) [.int .i64 (wrap64 (rd x7_2 0)), .int .i64 t185] (fun k_ => (w.heap.size ≤ k_)) (fun _ => False) rfl rfl ?aP (fun _ hk => hk.elim) ?aF ?aO ?aB ?aS ?aL ?_
                                                  (case aP => exact k53_mkM _ _ _ (⟨wrap64 (rd x7_2 0), t185⟩ : S53))
                                                  (case aB => exact (by repeat (first | (with_reducible first | exact HB.out | apply below_alloc | apply pw_below_drewN | apply below_drew1 | refine below_set ?_ GE145.out | refine below_set ?_ GE173.out) | exact HB.out)))
                                                  (case aF => exact (fun k_ hk => (Nat.le_trans (below_size (by repeat (first | (with_reducible first | exact HB.out | apply below_alloc | apply pw_below_drewN | apply below_drew1 | refine below_set ?_ GE145.out | refine below_set ?_ GE173.out) | exact HB.out))) hk)))
                                                  (case aO => exact (by (with_reducible repeat (first | apply Kd.R_alloc | apply Kd.R_drewN | apply Kd.R_drew)); exact HO_174002.out))
                                                  (case aS => exact (below_size (by repeat (first | (with_reducible first | exact HB.out | apply below_alloc | apply pw_below_drewN | apply below_drew1 | refine below_set ?_ GE145.out | refine below_set ?_ GE173.out) | exact HB.out))))
                                                  (case aL => have := LMc52.out; omega)
                                                  intro v187 w57 ho hb hg hat
                                                  rw [← Ny186.out] at ho
                                                  have n0_ := Aside0.mk (Kd.V_afterv (ok := (fun k_ => (P0_ k_ ∨ w.heap.size ≤ k_) ∧ k_ ≠ gb145 ∧ k_ ≠ gb173)) (by (with_reducible repeat (first | apply Kd.V_alloc | apply Kd.V_drewN | apply Kd.V_drew)); exact Kd.V_mono HO_7.out (fun _ hk => ⟨⟨hk.1, ⟨hk.2.2.1, hk.2.2.2⟩⟩, hk.2.1⟩)) hg hat)
                                                  have n1_ := Aside0.mk (blk_grown (g := gb145) (o := .cells #[.int .i64 0, .int .i64 0, .slice none 0 0] 32 (0, 0)) (by (with_reducible repeat (first | refine blk_drewN ?_ _ | refine blk_drew ?_ | refine blk_alloc ?_ _)); exact BK145.out) hg (Kd.R_ne HO_174002.out BK145.out (by decide)))
                                                  have n2_ := Aside0.mk (blk_grown (g := gb173) (o := .cells #[.int .i64 t166, .int .i64 t172, u174002] 32 (0, 0)) (by (with_reducible repeat (first | refine blk_drewN ?_ _ | refine blk_drew ?_ | refine blk_alloc ?_ _)); exact BK173.out) hg (Kd.R_ne HO_174002.out BK173.out (by decide)))
                                                  have n3_ := Aside0.mk (Kd.V_afterv (ok := (fun k_ => (P0_ k_ ∨ w.heap.size ≤ k_) ∧ k_ ≠ gb145 ∧ k_ ≠ gb173)) (by (with_reducible repeat (first | apply Kd.V_alloc | apply Kd.V_drewN | apply Kd.V_drew)); exact Kd.V_mono HO184.out (fun _ hk => ⟨⟨hk.1, ⟨hk.2.2.1, hk.2.2.2⟩⟩, hk.2.1⟩)) hg hat)
                                                  have n4_ := Aside0.mk (hb)
                                                  have n5_ := Aside0.mk (ho)
                                                  clear HO_7
                                                  clear BK145
                                                  clear BK173
                                                  clear HO184
                                                  clear HB
                                                  clear HO_174002
                                                  have HO_7 := n0_
                                                  have BK145 := n1_
                                                  have BK173 := n2_
                                                  have HO184 := n3_
                                                  have HB := n4_
                                                  have HO188 := n5_
                                                  clear n0_ n1_ n2_ n3_ n4_ n5_
                                                  clear ho hb hg hat
                                                  obtain ⟨Ao58, co58, eo58⟩ := Kd.R_slice HO188.out
                                                  (first | subst eo58 | (injection eo58 with f1_ f2_ f3_; have f4_ := f1_.symm; have f5_ := f3_.symm; clear f1_ f2_ f3_; subst f4_; subst f5_))
                                                  refine hK.out _ _ ?_
                                                  clear hK K
                                                  refine norm_ (a' := ?_) ?_ ?_
                                                  rotate_left
                                                  · show Act.put _ (some 81) _ = _
                                                    simp only [Act.put, List.setIfInBounds_toArray, List.set_cons_zero, List.set_cons_succ, i64_w, i32_w]
                                                    rfl
                                                  refine pure_ (i := 12) (N := some 82) (v := ?_) (a' := ?_) #[true, true, true, true, true, true, true, true, true, true, true, true, true, false] rfl rfl (any_of HT_.out (by kernel_rfl)) (fun _ _ _ h => h) (Or.inl ⟨by rfl, ?_⟩) ?_ ?_
                                                  rotate_left
                                                  · intro w'
                                                    go_simp
                                                    with_reducible rfl
                                                  rotate_left
                                                  · simp only [Act.put, List.setIfInBounds_toArray, List.set_cons_zero, List.set_cons_succ, i64_w, i32_w]
                                                    rfl
                                                  refine last_ (i := 13) (N := none) #[true, true, true, true, true, true, true, true, true, true, true, true, true, true] rfl rfl (one_of HT_.out (by kernel_rfl)) (by decide) (fun K hK => ?_)
                                                  have hs59 : w57.cell? ⟨gb173, 2, none⟩ = some (u174002) := (blk_cell BK173.out 2).trans rfl
                                                  have hfs59 := blk_frozen BK173.out 2
                                                  have hns59_0 := NB145_173.out
                                                  have hms59_0 := NB173_145.out
                                                  refine skip_ (w1 := ?_) (by rfl) rfl ?_ ?_
                                                  rotate_left
                                                  · go_simp
                                                    rfl
                                                  refine hK.out _ _ ?_
                                                  clear hK K
                                                  refine done_ (done_of HT_.out (by kernel_rfl)) ?_
                                                  have n0_ : Aside0 (Kd.V (Kd.int .u8) 5 (w57.setCell ⟨gb173, 2, none⟩ (.slice Ao58 y186.length co58)) w.heap.size (fun k_ => (P0_ k_ ∨ w.heap.size ≤ k_) ∧ some k_ ≠ (.slice Ao58 y186.length co58 : Value).ownBlock ∧ k_ ≠ gb145 ∧ k_ ≠ gb173) (.slice (some ad179) x7_2.length co54) x7_2) := ⟨by (with_reducible repeat (first | apply Kd.V_alloc | apply Kd.V_drewN | apply Kd.V_drew)); exact Kd.V_mono (Kd.V_far (p := ⟨gb173, 2, none⟩) (Kd.V_mono HO_7.out (fun k_ hk => (⟨hk, hk.1.2.2⟩ : _ ∧ k_ ≠ gb173))) (fun _ hk => hk.2) (.slice Ao58 y186.length co58)) (fun _ hk => ⟨hk.1.1.1, ⟨hk.1.2, ⟨hk.1.1.2.1, hk.1.1.2.2⟩⟩⟩)⟩
                                                  have n1_ : Aside0 (Kd.V (Kd.int .u8) 5 (w57.setCell ⟨gb173, 2, none⟩ (.slice Ao58 y186.length co58)) w.heap.size (fun k_ => (P0_ k_ ∨ w.heap.size ≤ k_) ∧ some k_ ≠ (.slice Ao58 y186.length co58 : Value).ownBlock ∧ k_ ≠ gb145 ∧ k_ ≠ gb173) (.slice A56 y180.length c56) y180) := ⟨by (with_reducible repeat (first | apply Kd.V_alloc | apply Kd.V_drewN | apply Kd.V_drew)); exact Kd.V_mono (Kd.V_far (p := ⟨gb173, 2, none⟩) (Kd.V_mono HO184.out (fun k_ hk => (⟨hk, hk.1.2.2⟩ : _ ∧ k_ ≠ gb173))) (fun _ hk => hk.2) (.slice Ao58 y186.length co58)) (fun _ hk => ⟨hk.1.1.1, ⟨hk.1.2, ⟨hk.1.1.2.1, hk.1.1.2.2⟩⟩⟩)⟩
                                                  have n2_ : Aside0 (Kd.R k53 53 (w57.setCell ⟨gb173, 2, none⟩ (.slice Ao58 y186.length co58)) w.heap.size (fun k_ => (w.heap.size ≤ k_)) (.slice Ao58 y186.length co58) y186) := ⟨by (with_reducible repeat (first | apply Kd.R_alloc | apply Kd.R_drewN | apply Kd.R_drew)); exact Kd.R_mono (Kd.R_far (p := ⟨gb173, 2, none⟩) (Kd.R_types HO188.out BK173.out (by decide)) (fun _ hk => hk.2) (.slice Ao58 y186.length co58)) (fun _ hk => hk.1)⟩
                                                  have n3_ : Aside0 ((w57.setCell ⟨gb173, 2, none⟩ (.slice Ao58 y186.length co58)).heap[gb145]? = some (.cells #[.int .i64 0, .int .i64 0, .slice none 0 0] 32 (0, 0))) := ⟨by (with_reducible repeat (first | refine blk_drewN ?_ _ | refine blk_drew ?_ | refine blk_alloc ?_ _)); refine blk_far ?_ NB145_173.out _; (with_reducible repeat (first | refine blk_drewN ?_ _ | refine blk_drew ?_ | refine blk_alloc ?_ _)); exact BK145.out⟩
                                                  have n4_ : Aside0 ((w57.setCell ⟨gb173, 2, none⟩ (.slice Ao58 y186.length co58)).heap[gb173]? = some (.cells #[.int .i64 t166, .int .i64 t172, .slice Ao58 y186.length co58] 32 (0, 0))) := ⟨by (with_reducible repeat (first | refine blk_drewN ?_ _ | refine blk_drew ?_ | refine blk_alloc ?_ _)); refine blk_put (cs := #[.int .i64 t166, .int .i64 t172, u174002]) ?_ 2 _ rfl; (with_reducible repeat (first | refine blk_drewN ?_ _ | refine blk_drew ?_ | refine blk_alloc ?_ _)); exact BK173.out⟩
                                                  have n5_ : Aside0 (Below w.heap.size w (w57.setCell ⟨gb173, 2, none⟩ (.slice Ao58 y186.length co58))) := ⟨by repeat (first | (with_reducible first | exact HB.out | apply below_alloc | apply pw_below_drewN | apply below_drew1 | refine below_set ?_ GE145.out | refine below_set ?_ GE173.out) | exact HB.out)⟩
                                                  (try clear HO_7)
                                                  (try clear HO184)
                                                  (try clear HO188)
                                                  (try clear BK145)
                                                  (try clear BK173)
                                                  (try clear HB)
                                                  generalize (w57.setCell ⟨gb173, 2, none⟩ (.slice Ao58 y186.length co58)) = w60 at n0_ n1_ n2_ n3_ n4_ n5_ ⊢
                                                  have HO_7 := n0_
                                                  have HO184 := n1_
                                                  have HO188 := n2_
                                                  have BK145 := n3_
                                                  have BK173 := n4_
                                                  have HB := n5_
                                                  clear n0_ n1_ n2_ n3_ n4_ n5_
                                                  have q61 : (9 : Int) ≤ ((x7_2.length : Int) : Int) := of_decide_eq_true (by first | (with_reducible assumption) | assumption)
                                                  obtain ⟨i061, hi061, _, hsz61, _⟩ := info_parts info5
                                                  have hroom61 : x7_2.length ≤ co54 := (Kd.V_reads' HO_7.out).2.1
                                                  have hC61 : Kd.F (Kd.int .u8) _ _ (some ad179) x7_2.length x7_2 := (Kd.V_at (base := w.heap.size) HO_7.out).2.2
                                                  have hcut61 := cut_from (P := Try.prog) 25 5 .i64 Try.underlying25 hi061 1 hsz61 (some ad179) x7_2.length co54 9 (by omega) q61
                                                  have hr61 := Kd.F_cut (m := (9 : Int).toNat) (c := co54) hC61 (by omega) hroom61
                                                  obtain ⟨A61, hA61⟩ : ∃ A1_q, A1_q = (if co54 = (9 : Int).toNat then (some ad179) else ((some ad179) : Option Addr).map (·.add ((9 : Int).toNat * 1))) := ⟨_, rfl⟩
                                                  obtain ⟨c61, hc61⟩ : ∃ c1_q, c1_q = co54 - (9 : Int).toNat := ⟨_, rfl⟩
                                                  have hy61 : y189.length = x7_2.length - (9 : Int).toNat := (by rw [Ny189.out, List.length_drop] <;> omega)
                                                  rw [show (x7_2).drop (9 : Int).toNat = y189 from Ny189.out.symm] at hr61
                                                  replace hr61 : Kd.F (Kd.int .u8) _ _ A61 y189.length y189 := (by rw [hA61]; exact hr61)
                                                  rw [← hy61, ← hA61, ← hc61] at hcut61
                                                  have HO193 := Aside0.mk (show Kd.V (Kd.int .u8) 5 _ w.heap.size _ (.slice A61 y189.length c61) y189 from Kd.V_mk (by rw [hy61, hc61]; exact Nat.sub_le_sub_right hroom61 _) hr61)
                                                  have HC193 := Aside0.mk (show y189.length ≤ c61 from by rw [hy61, hc61]; exact Nat.sub_le_sub_right hroom61 _)
                                                  clear hr61 hC61 hroom61 hi061 hsz61 hc61
                                                  have KY61 := Aside0.mk hy61
                                                  have KA61 := Aside0.mk hA61
                                                  clear hy61 hA61
                                                  replace q61 := eq_true q61
                                                  try go_wp2
                                                  go_roundg k2
                                                  case measure => have := HJ4.out; have := HK2.out; omega
                                                  case rel => exact ⟨(y189), (y186), (.slice Ao58 y186.length co58), H', ⟨by have := HJ4.out; have := HK2.out; omega⟩, ⟨by (with_reducible repeat (first | apply Kd.V_alloc | apply Kd.V_drewN | apply Kd.V_drew)); exact HO193.out⟩, ⟨by (with_reducible repeat (first | apply Kd.R_alloc | apply Kd.R_drewN | apply Kd.R_drew)); exact HO188.out⟩, ⟨by (with_reducible repeat (first | refine blk_drewN ?_ _ | refine blk_drew ?_ | refine blk_alloc ?_ _)); exact BK145.out⟩, ⟨by (with_reducible repeat (first | refine blk_drewN ?_ _ | refine blk_drew ?_ | refine blk_alloc ?_ _)); exact BK173.out⟩, ⟨by repeat (first | (with_reducible first | exact HB.out | apply below_alloc | apply pw_below_drewN | apply below_drew1 | refine below_set ?_ GE145.out | refine below_set ?_ GE173.out) | exact HB.out)⟩⟩
                                                · rw [if_neg c52] at H
                                                  exact absurd H (by simp)
                                              · rw [if_neg c50] at H
                                                exact absurd H (by simp)
                                            · rw [if_neg c49] at H
                                              exact absurd H (by simp)
                                          · rw [if_neg c48] at H
                                            exact absurd H (by simp)
                                        · rw [if_neg c47] at H
                                          have c47b0 : decide (0 < (x7_2.length : Int)) = false := decide_eq_false c47
                                          have c47b1 : decide (0 < x7_2.length) = false := decide_eq_false (by omega)
                                          clear c47
                                          replace H := Option.bind_eq_some_iff.mp H
                                          obtain ⟨t194, A620, H⟩ := H
                                          replace H : (if t194 = 0 then (some (t166, t172, x174002_2, 0)) else (some (0, 0, ([] : List (S53)), 6))) = some (r1, r2, r3, r4) := H
                                          have A62 := Aside0.mk A620
                                          clear A620
                                          by_cases c63 : t194 = 0
                                          · rw [if_pos c63] at H
                                            have c63b0 : (t194 == 0) = true := beq_iff_eq.mpr c63
                                            have c63b1 : (t194 != 0) = false := bne_eq_false_iff_eq.mpr c63
                                            clear c63
                                            simp only [Option.some.injEq, Prod.mk.injEq] at H
                                            obtain ⟨rfl, rfl, rfl, rfl⟩ := H
                                            obtain ⟨Ao64, co64, eo64⟩ := Kd.V_slice HO_7.out
                                            subst eo64
                                            have hnb65 := NB173_145.out
                                            have hnc65 := NB145_173.out
                                            have hcz66_0 : wr.cell? ⟨gb173, 0, none⟩ = some (.int .i64 t166) := (blk_cell BK173.out 0).trans rfl
                                            have hcz66_1 : wr.cell? ⟨gb173, 1, none⟩ = some (.int .i64 t172) := (blk_cell BK173.out 1).trans rfl
                                            have hcz66_2 : wr.cell? ⟨gb173, 2, none⟩ = some (u174002) := (blk_cell BK173.out 2).trans rfl
                                            have hfz66_0 := blk_frozen BK173.out 0
                                            have hfz66_1 := blk_frozen BK173.out 1
                                            have hfz66_2 := blk_frozen BK173.out 2
                                            obtain ⟨Ao67, co67, eo67⟩ := Kd.R_slice HO_174002.out
                                            subst eo67
                                            go_wp2_with (first | ((with_reducible refine gate_callee (f := 14) rfl ?_); refine goesL_ (some 84) rfl rfl Try.func14 (by kernel_rfl) rfl #[.agg #[.int .i64 t166, .int .i64 t172, .slice Ao67 x174002_2.length co67]] rfl (by (try simp only [List.map_toArray, List.map_cons, List.map_nil]); first | done | rfl | (simp only [List.length_drop, List.length_take]; rfl)) ?_; (with_reducible refine (batch_Check.calls k2 t166 t172 _ _ x174002_2 t194 _ ?side1 ?side2 A62.out).mono ?_); (case side1 => repeat (first | exact (Kd.R_reads' HO_174002.out).2.2 | (with_reducible refine Kd.C_alloc ?_ _) | (with_reducible refine Kd.C_drewN ?_ _) | (with_reducible refine Kd.C_drew ?_))); (case side2 => exact (Kd.R_reads' HO_174002.out).2.1); rintro e w68 ⟨rfl, hb⟩; refine ⟨_, rfl, ?_⟩; have n0_ := Aside0.mk (Kd.V_below (by (with_reducible repeat (first | apply Kd.V_alloc | apply Kd.V_drewN | apply Kd.V_drew)); exact HO_7.out) hb); have n1_ := Aside0.mk (Kd.R_below (by (with_reducible repeat (first | apply Kd.R_alloc | apply Kd.R_drewN | apply Kd.R_drew)); exact HO_174002.out) hb); have n2_ := Aside0.mk (blk_below (g := gb145) (o := .cells #[.int .i64 0, .int .i64 0, .slice none 0 0] 32 (0, 0)) (by (with_reducible repeat (first | refine blk_drewN ?_ _ | refine blk_drew ?_ | refine blk_alloc ?_ _)); exact BK145.out) hb); have n3_ := Aside0.mk (blk_below (g := gb173) (o := .cells #[.int .i64 t166, .int .i64 t172, .slice Ao67 x174002_2.length co67] 32 (0, 0)) (by (with_reducible repeat (first | refine blk_drewN ?_ _ | refine blk_drew ?_ | refine blk_alloc ?_ _)); exact BK173.out) hb); have n4_ := Aside0.mk (below_step (by repeat (first | (with_reducible first | exact HB.out | apply below_alloc | apply pw_below_drewN | apply below_drew1 | refine below_set ?_ GE145.out | refine below_set ?_ GE173.out) | exact HB.out)) hb); clear HO_7; clear HO_174002; clear BK145; clear BK173; clear HB; have HO_7 := n0_; have HO_174002 := n1_; have BK145 := n2_; have BK173 := n3_; have HB := n4_; clear n0_ n1_ n2_ n3_ n4_; (try clear hb); (try clear hb2); (try clear hk); (try clear hi); have hcz69_0 : w68.cell? ⟨gb173, 0, none⟩ = some (.int .i64 t166) := (blk_cell BK173.out 0).trans rfl; have hcz69_1 : w68.cell? ⟨gb173, 1, none⟩ = some (.int .i64 t172) := (blk_cell BK173.out 1).trans rfl; have hcz69_2 : w68.cell? ⟨gb173, 2, none⟩ = some (.slice Ao67 x174002_2.length co67) := (blk_cell BK173.out 2).trans rfl; have hfz69_0 := blk_frozen BK173.out 0; have hfz69_1 := blk_frozen BK173.out 1; have hfz69_2 := blk_frozen BK173.out 2; have hcz70_0 : w68.cell? ⟨gb145, 0, none⟩ = some (.int .i64 0) := (blk_cell BK145.out 0).trans rfl; have hcz70_1 : w68.cell? ⟨gb145, 1, none⟩ = some (.int .i64 0) := (blk_cell BK145.out 1).trans rfl; have hcz70_2 : w68.cell? ⟨gb145, 2, none⟩ = some (.slice none 0 0) := (blk_cell BK145.out 2).trans rfl; have hfz70_0 := blk_frozen BK145.out 0; have hfz70_1 := blk_frozen BK145.out 1; have hfz70_2 := blk_frozen BK145.out 2))
                                            refine bodyPost_ret (results_ct rfl _ _ gb145 32 #[.int .i64 t166, .int .i64 t172, .slice Ao67 x174002_2.length co67] (0, 0) _ rfl (by (with_reducible repeat (first | refine blk_drewN ?_ _ | refine blk_drew ?_ | refine blk_alloc ?_ _)); refine blk_put (cs := #[.int .i64 t166, .int .i64 t172, .slice none 0 0]) ?_ 2 _ rfl; (with_reducible repeat (first | refine blk_drewN ?_ _ | refine blk_drew ?_ | refine blk_alloc ?_ _)); refine blk_put (cs := #[.int .i64 t166, .int .i64 0, .slice none 0 0]) ?_ 1 _ rfl; (with_reducible repeat (first | refine blk_drewN ?_ _ | refine blk_drew ?_ | refine blk_alloc ?_ _)); refine blk_put (cs := #[.int .i64 0, .int .i64 0, .slice none 0 0]) ?_ 0 _ rfl; (with_reducible repeat (first | refine blk_drewN ?_ _ | refine blk_drew ?_ | refine blk_alloc ?_ _)); exact BK145.out) Try.underlying32 rfl (by kernel_rfl)) rfl ?_
                                            exact ⟨_, by first | rfl | (simp [errW_none, errW_some] <;> rfl) | (simp only [← hji13]; first | rfl | (simp [errW_none, errW_some] <;> rfl)) | (simp [*, errW_none, errW_some] <;> rfl), by (with_reducible repeat (first | apply Kd.R_alloc | apply Kd.R_drewN | apply Kd.R_drew)); exact Kd.R_mono (Kd.R_far (p := ⟨gb145, 2, none⟩) (Kd.R_far (p := ⟨gb145, 1, none⟩) (Kd.R_far (p := ⟨gb145, 0, none⟩) (Kd.R_types HO_174002.out BK145.out (by decide)) (fun _ hk => hk.2) (.int .i64 t166)) (fun _ hk => hk.2) (.int .i64 t172)) (fun _ hk => hk.2) (.slice Ao67 x174002_2.length co67)) (fun _ hk => hk.1), by repeat (first | (with_reducible first | exact HB.out | apply below_alloc | apply pw_below_drewN | apply below_drew1 | refine below_set ?_ GE145.out | refine below_set ?_ GE173.out) | exact HB.out)⟩
                                          · rw [if_neg c63] at H
                                            have c63b0 : (t194 == 0) = false := beq_eq_false_iff_ne.mpr c63
                                            have c63b1 : (t194 != 0) = true := bne_iff_ne.mpr c63
                                            simp only [Option.some.injEq, Prod.mk.injEq] at H
                                            obtain ⟨rfl, rfl, rfl, rfl⟩ := H
                                            obtain ⟨Ao71, co71, eo71⟩ := Kd.V_slice HO_7.out
                                            subst eo71
                                            have hnb72 := NB173_145.out
                                            have hnc72 := NB145_173.out
                                            have hcz73_0 : wr.cell? ⟨gb173, 0, none⟩ = some (.int .i64 t166) := (blk_cell BK173.out 0).trans rfl
                                            have hcz73_1 : wr.cell? ⟨gb173, 1, none⟩ = some (.int .i64 t172) := (blk_cell BK173.out 1).trans rfl
                                            have hcz73_2 : wr.cell? ⟨gb173, 2, none⟩ = some (u174002) := (blk_cell BK173.out 2).trans rfl
                                            have hfz73_0 := blk_frozen BK173.out 0
                                            have hfz73_1 := blk_frozen BK173.out 1
                                            have hfz73_2 := blk_frozen BK173.out 2
                                            obtain ⟨Ao74, co74, eo74⟩ := Kd.R_slice HO_174002.out
                                            subst eo74
                                            go_wp2_with (first | ((with_reducible refine gate_callee (f := 14) rfl ?_); refine goesL_ (some 84) rfl rfl Try.func14 (by kernel_rfl) rfl #[.agg #[.int .i64 t166, .int .i64 t172, .slice Ao74 x174002_2.length co74]] rfl (by (try simp only [List.map_toArray, List.map_cons, List.map_nil]); first | done | rfl | (simp only [List.length_drop, List.length_take]; rfl)) ?_; (with_reducible refine (batch_Check.calls k2 t166 t172 _ _ x174002_2 t194 _ ?side1 ?side2 A62.out).mono ?_); (case side1 => repeat (first | exact (Kd.R_reads' HO_174002.out).2.2 | (with_reducible refine Kd.C_alloc ?_ _) | (with_reducible refine Kd.C_drewN ?_ _) | (with_reducible refine Kd.C_drew ?_))); (case side2 => exact (Kd.R_reads' HO_174002.out).2.1); rintro e w75 ⟨rfl, hb⟩; refine ⟨_, rfl, ?_⟩; have n0_ := Aside0.mk (Kd.V_below (by (with_reducible repeat (first | apply Kd.V_alloc | apply Kd.V_drewN | apply Kd.V_drew)); exact HO_7.out) hb); have n1_ := Aside0.mk (Kd.R_below (by (with_reducible repeat (first | apply Kd.R_alloc | apply Kd.R_drewN | apply Kd.R_drew)); exact HO_174002.out) hb); have n2_ := Aside0.mk (blk_below (g := gb145) (o := .cells #[.int .i64 0, .int .i64 0, .slice none 0 0] 32 (0, 0)) (by (with_reducible repeat (first | refine blk_drewN ?_ _ | refine blk_drew ?_ | refine blk_alloc ?_ _)); exact BK145.out) hb); have n3_ := Aside0.mk (blk_below (g := gb173) (o := .cells #[.int .i64 t166, .int .i64 t172, .slice Ao74 x174002_2.length co74] 32 (0, 0)) (by (with_reducible repeat (first | refine blk_drewN ?_ _ | refine blk_drew ?_ | refine blk_alloc ?_ _)); exact BK173.out) hb); have n4_ := Aside0.mk (below_step (by repeat (first | (with_reducible first | exact HB.out | apply below_alloc | apply pw_below_drewN | apply below_drew1 | refine below_set ?_ GE145.out | refine below_set ?_ GE173.out) | exact HB.out)) hb); clear HO_7; clear HO_174002; clear BK145; clear BK173; clear HB; have HO_7 := n0_; have HO_174002 := n1_; have BK145 := n2_; have BK173 := n3_; have HB := n4_; clear n0_ n1_ n2_ n3_ n4_; (try clear hb); (try clear hb2); (try clear hk); (try clear hi); have hcz76_0 : w75.cell? ⟨gb145, 0, none⟩ = some (.int .i64 0) := (blk_cell BK145.out 0).trans rfl; have hcz76_1 : w75.cell? ⟨gb145, 1, none⟩ = some (.int .i64 0) := (blk_cell BK145.out 1).trans rfl; have hcz76_2 : w75.cell? ⟨gb145, 2, none⟩ = some (.slice none 0 0) := (blk_cell BK145.out 2).trans rfl; have hfz76_0 := blk_frozen BK145.out 0; have hfz76_1 := blk_frozen BK145.out 1; have hfz76_2 := blk_frozen BK145.out 2))
                                            refine bodyPost_ret (results_ct rfl _ _ gb145 32 #[.int .i64 0, .int .i64 0, .slice none 0 0] (0, 0) _ rfl (by (with_reducible repeat (first | refine blk_drewN ?_ _ | refine blk_drew ?_ | refine blk_alloc ?_ _)); refine blk_put (cs := #[.int .i64 0, .int .i64 0, .slice none 0 0]) ?_ 2 _ rfl; (with_reducible repeat (first | refine blk_drewN ?_ _ | refine blk_drew ?_ | refine blk_alloc ?_ _)); refine blk_put (cs := #[.int .i64 0, .int .i64 0, .slice none 0 0]) ?_ 1 _ rfl; (with_reducible repeat (first | refine blk_drewN ?_ _ | refine blk_drew ?_ | refine blk_alloc ?_ _)); refine blk_put (cs := #[.int .i64 0, .int .i64 0, .slice none 0 0]) ?_ 0 _ rfl; (with_reducible repeat (first | refine blk_drewN ?_ _ | refine blk_drew ?_ | refine blk_alloc ?_ _)); exact BK145.out) Try.underlying32 rfl (by kernel_rfl)) rfl ?_
                                            exact ⟨_, by first | rfl | (simp [errW_none, errW_some] <;> rfl) | (simp only [← hji13]; first | rfl | (simp [errW_none, errW_some] <;> rfl)) | (simp [*, errW_none, errW_some] <;> rfl), by first | exact Kd.R_nil _ _ _ _ _ | exact Kd.N_nil _ _ _ _ _ | exact Kd.V_nil _ _ _ _ _ | exact Kd.Q_nil _ _ _ _ _ | exact Kd.S_nil _ _ _ _ _, by repeat (first | (with_reducible first | exact HB.out | apply below_alloc | apply pw_below_drewN | apply below_drew1 | refine below_set ?_ GE145.out | refine below_set ?_ GE173.out) | exact HB.out)⟩
                                  · rw [if_neg c33] at H
                                    exact absurd H (by simp)
                                · rw [if_neg c31] at H
                                  exact absurd H (by simp)
                              · rw [if_neg c30] at H
                                exact absurd H (by simp)
                            · rw [if_neg c28] at H
                              exact absurd H (by simp)
                          · rw [if_neg c27] at H
                            exact absurd H (by simp)
                        · rw [if_neg c26] at H
                          have c26b0 : (t159 == t160) = false := beq_eq_false_iff_ne.mpr c26
                          have c26b1 : (t159 != t160) = true := bne_iff_ne.mpr c26
                          simp only [Option.some.injEq, Prod.mk.injEq] at H
                          obtain ⟨rfl, rfl, rfl, rfl⟩ := H
                          have p148 : 0 ≤ (10 : Int) := (by omega)
                          have q148 : 10 < (l0.length : Int) := of_decide_eq_true (by first | (with_reducible assumption) | assumption)
                          obtain ⟨ad148, e148, hx148_0⟩ := Kd.at_int (Kd.V_reads' HO_0.out).2.2 10 p148 q148
                          cases e148
                          (try simp only [show (10 : Int).toNat = 10 from rfl, Nat.reduceMul, Nat.reduceEqDiff, Go.Addr.add, ↓reduceIte] at hx148_0)
                          have qi148 : (10 < l0.length) = True := eq_true (by omega)
                          (try rw [show ((10 : Int)).toNat = 10 from rfl] at hx148_0)
                          replace p148 := eq_true p148
                          replace q148 := eq_true q148
                          have q77 : ((ji13) : Int) ≤ ((l0.length : Int) : Int) := of_decide_eq_true (by first | (with_reducible assumption) | assumption)
                          obtain ⟨i077, hi077, _, hsz77, _⟩ := info_parts info5
                          have hroom77 : l0.length ≤ c0 := (Kd.V_reads' HO_0.out).2.1
                          have hC77 : Kd.F (Kd.int .u8) _ _ (some ad148) l0.length l0 := (Kd.V_at (base := w.heap.size) HO_0.out).2.2
                          have hcut77 := cut_to (P := Try.prog) 25 5 .i64 Try.underlying25 hi077 (some ad148) l0.length c0 (ji13) (of_decide_eq_true (by first | (with_reducible assumption) | assumption)) q77 hroom77
                          have hr77 := Kd.F_take (m := ((ji13) : Int).toNat) hC77 (by omega)
                          have hy77 : y149.length = ((ji13) : Int).toNat := (by rw [Ny149.out, List.length_take]; omega)
                          rw [← Ny149.out] at hr77
                          rw [← hy77] at hcut77
                          have HO153 := Aside0.mk (show Kd.V (Kd.int .u8) 5 _ w.heap.size _ (.slice (some ad148) y149.length c0) y149 from Kd.V_mk (by omega) hr77)
                          have HC153 := Aside0.mk (show y149.length ≤ c0 from by omega)
                          clear hr77 hC77 hroom77 hi077 hsz77
                          have KY77 := Aside0.mk hy77
                          clear hy77
                          replace q77 := eq_true q77
                          have q78 : ((y149.length : Int) : Int) ≤ ((l0.length : Int) : Int) := of_decide_eq_true (by first | (with_reducible assumption) | assumption)
                          obtain ⟨i078, hi078, _, hsz78, _⟩ := info_parts info5
                          have hroom78 : l0.length ≤ c0 := (Kd.V_reads' HO_0.out).2.1
                          have hC78 : Kd.F (Kd.int .u8) _ _ (some ad148) l0.length l0 := (Kd.V_at (base := w.heap.size) HO_0.out).2.2
                          have q078 : (0 : Int) ≤ ((y149.length : Int) : Int) := of_decide_eq_true (by first | (with_reducible assumption) | assumption)
                          have hcut78 := cut_from (P := Try.prog) 25 5 .i64 Try.underlying25 hi078 1 hsz78 (some ad148) l0.length c0 (y149.length : Int) q078 q78
                          have hr78 := Kd.F_cut (m := ((y149.length : Int) : Int).toNat) (c := c0) hC78 (by omega) hroom78
                          obtain ⟨A78, hA78⟩ : ∃ A1_q, A1_q = (if c0 = ((y149.length : Int) : Int).toNat then (some ad148) else ((some ad148) : Option Addr).map (·.add (((y149.length : Int) : Int).toNat * 1))) := ⟨_, rfl⟩
                          obtain ⟨c78, hc78⟩ : ∃ c1_q, c1_q = c0 - ((y149.length : Int) : Int).toNat := ⟨_, rfl⟩
                          have hy78 : y154.length = l0.length - ((y149.length : Int) : Int).toNat := (by rw [Ny154.out, List.length_drop] <;> omega)
                          rw [show (l0).drop ((y149.length : Int) : Int).toNat = y154 from Ny154.out.symm] at hr78
                          replace hr78 : Kd.F (Kd.int .u8) _ _ A78 y154.length y154 := (by rw [hA78]; exact hr78)
                          rw [← hy78, ← hA78, ← hc78] at hcut78
                          have HO158 := Aside0.mk (show Kd.V (Kd.int .u8) 5 _ w.heap.size _ (.slice A78 y154.length c78) y154 from Kd.V_mk (by rw [hy78, hc78]; exact Nat.sub_le_sub_right hroom78 _) hr78)
                          have HC158 := Aside0.mk (show y154.length ≤ c78 from by rw [hy78, hc78]; exact Nat.sub_le_sub_right hroom78 _)
                          clear hr78 hC78 hroom78 hi078 hsz78 hc78
                          have KY78 := Aside0.mk hy78
                          have KA78 := Aside0.mk hA78
                          clear hy78 hA78
                          replace q78 := eq_true q78
                          go_wp2_with (first | ((with_reducible refine gate_callee (f := 30) rfl ?_); refine goesL_ (some 51) rfl rfl Try.func30 (by kernel_rfl) rfl #[.slice A78 y154.length c78] rfl (by (try simp only [List.map_toArray, List.map_cons, List.map_nil]); first | done | rfl | (simp only [List.length_drop, List.length_take]; rfl)) ?_; (with_reducible refine (batch_get_uint32.calls kj4 _ _ y154 t159 _ ?side1 ?side2 A24.out).mono ?_); (case side1 => repeat (first | exact (Kd.V_reads' HO158.out).2.2 | (with_reducible refine Kd.C_alloc ?_ _) | (with_reducible refine Kd.C_drewN ?_ _) | (with_reducible refine Kd.C_drew ?_))); (case side2 => exact (Kd.V_reads' HO158.out).2.1); rintro e w' ⟨rfl, ⟨nd, rfl⟩⟩; refine ⟨_, rfl, ?_⟩; (try (rw [drewN_self wc]; generalize hq_ : World.drewN wc _ = wc; have n0_ : Aside0 (Kd.V (Kd.int .u8) 5 wc w.heap.size (fun k_ => (P0_ k_ ∨ w.heap.size ≤ k_) ∧ k_ ≠ gb145) (.slice (some ad148) y149.length c0) y149) := ⟨by rw [← hq_]; exact (by (with_reducible repeat (first | apply Kd.V_alloc | apply Kd.V_drewN | apply Kd.V_drew)); exact HO153.out)⟩; have n1_ : Aside0 (Kd.V (Kd.int .u8) 5 wc w.heap.size (fun k_ => (P0_ k_ ∨ w.heap.size ≤ k_) ∧ k_ ≠ gb145) (.slice A78 y154.length c78) y154) := ⟨by rw [← hq_]; exact (by (with_reducible repeat (first | apply Kd.V_alloc | apply Kd.V_drewN | apply Kd.V_drew)); exact HO158.out)⟩; have n2_ : Aside0 (Kd.V (Kd.int .u8) 5 wc w.heap.size (fun k_ => (P0_ k_ ∨ w.heap.size ≤ k_) ∧ k_ ≠ gb145) (.slice (some ad148) l0.length c0) l0) := ⟨by rw [← hq_]; exact (by (with_reducible repeat (first | apply Kd.V_alloc | apply Kd.V_drewN | apply Kd.V_drew)); exact HO_0.out)⟩; have n3_ : Aside0 (wc.heap[gb145]? = some (.cells #[.int .i64 0, .int .i64 0, .slice none 0 0] 32 (0, 0))) := ⟨by rw [← hq_]; exact (by (with_reducible repeat (first | refine blk_drewN ?_ _ | refine blk_drew ?_ | refine blk_alloc ?_ _)); exact BK145.out)⟩; have n4_ : Aside0 (Below w.heap.size w wc) := ⟨by rw [← hq_]; exact (by repeat (first | (with_reducible first | exact HB.out | apply below_alloc | apply pw_below_drewN | apply below_drew1 | refine below_set ?_ GE145.out) | exact HB.out))⟩; clear HO153 HO158 HO_0 BK145 HB hq_; have HO153 := n0_; have HO158 := n1_; have HO_0 := n2_; have BK145 := n3_; have HB := n4_; clear n0_ n1_ n2_ n3_ n4_))) | ((with_reducible refine gate_callee (f := 16) rfl ?_); refine goesL_ (some 53) rfl rfl Try.func16 (by kernel_rfl) rfl #[.slice (some ad148) y149.length c0] rfl (by (try simp only [List.map_toArray, List.map_cons, List.map_nil]); first | done | rfl | (simp only [List.length_drop, List.length_take]; rfl)) ?_; (with_reducible refine (batch_Sum.calls _ _ y149 t160 _ ?side1 ?side2 A25.out).mono ?_); (case side1 => repeat (first | exact (Kd.V_reads' HO153.out).2.2 | (with_reducible refine Kd.C_alloc ?_ _) | (with_reducible refine Kd.C_drewN ?_ _) | (with_reducible refine Kd.C_drew ?_))); (case side2 => exact (Kd.V_reads' HO153.out).2.1); rintro e w79 ⟨rfl, hb⟩; refine ⟨_, rfl, ?_⟩; have n0_ := Aside0.mk (Kd.V_below (by (with_reducible repeat (first | apply Kd.V_alloc | apply Kd.V_drewN | apply Kd.V_drew)); exact HO_0.out) hb); have n1_ := Aside0.mk (Kd.V_below (by (with_reducible repeat (first | apply Kd.V_alloc | apply Kd.V_drewN | apply Kd.V_drew)); exact HO153.out) hb); have n2_ := Aside0.mk (Kd.V_below (by (with_reducible repeat (first | apply Kd.V_alloc | apply Kd.V_drewN | apply Kd.V_drew)); exact HO158.out) hb); have n3_ := Aside0.mk (blk_below (g := gb145) (o := .cells #[.int .i64 0, .int .i64 0, .slice none 0 0] 32 (0, 0)) (by (with_reducible repeat (first | refine blk_drewN ?_ _ | refine blk_drew ?_ | refine blk_alloc ?_ _)); exact BK145.out) hb); have n4_ := Aside0.mk (below_step (by repeat (first | (with_reducible first | exact HB.out | apply below_alloc | apply pw_below_drewN | apply below_drew1 | refine below_set ?_ GE145.out) | exact HB.out)) hb); clear HO_0; clear HO153; clear HO158; clear BK145; clear HB; have HO_0 := n0_; have HO153 := n1_; have HO158 := n2_; have BK145 := n3_; have HB := n4_; clear n0_ n1_ n2_ n3_ n4_; (try clear hb); (try clear hb2); (try clear hk); (try clear hi); have hcz80_0 : w79.cell? ⟨gb145, 0, none⟩ = some (.int .i64 0) := (blk_cell BK145.out 0).trans rfl; have hcz80_1 : w79.cell? ⟨gb145, 1, none⟩ = some (.int .i64 0) := (blk_cell BK145.out 1).trans rfl; have hcz80_2 : w79.cell? ⟨gb145, 2, none⟩ = some (.slice none 0 0) := (blk_cell BK145.out 2).trans rfl; have hfz80_0 := blk_frozen BK145.out 0; have hfz80_1 := blk_frozen BK145.out 1; have hfz80_2 := blk_frozen BK145.out 2))
                          refine bodyPost_ret (results_ct rfl _ _ gb145 32 #[.int .i64 0, .int .i64 0, .slice none 0 0] (0, 0) _ rfl (by (with_reducible repeat (first | refine blk_drewN ?_ _ | refine blk_drew ?_ | refine blk_alloc ?_ _)); refine blk_put (cs := #[.int .i64 0, .int .i64 0, .slice none 0 0]) ?_ 2 _ rfl; (with_reducible repeat (first | refine blk_drewN ?_ _ | refine blk_drew ?_ | refine blk_alloc ?_ _)); refine blk_put (cs := #[.int .i64 0, .int .i64 0, .slice none 0 0]) ?_ 1 _ rfl; (with_reducible repeat (first | refine blk_drewN ?_ _ | refine blk_drew ?_ | refine blk_alloc ?_ _)); refine blk_put (cs := #[.int .i64 0, .int .i64 0, .slice none 0 0]) ?_ 0 _ rfl; (with_reducible repeat (first | refine blk_drewN ?_ _ | refine blk_drew ?_ | refine blk_alloc ?_ _)); exact BK145.out) Try.underlying32 rfl (by kernel_rfl)) rfl ?_
                          exact ⟨_, by first | rfl | (simp [errW_none, errW_some] <;> rfl) | (simp only [← hji13]; first | rfl | (simp [errW_none, errW_some] <;> rfl)) | (simp [*, errW_none, errW_some] <;> rfl), by first | exact Kd.R_nil _ _ _ _ _ | exact Kd.N_nil _ _ _ _ _ | exact Kd.V_nil _ _ _ _ _ | exact Kd.Q_nil _ _ _ _ _ | exact Kd.S_nil _ _ _ _ _, by repeat (first | (with_reducible first | exact HB.out | apply below_alloc | apply pw_below_drewN | apply below_drew1 | refine below_set ?_ GE145.out) | exact HB.out)⟩
                      · rw [if_neg c23] at H
                        exact absurd H (by simp)
                    · rw [if_neg c22] at H
                      exact absurd H (by simp)
              · rw [if_neg c15] at H
                exact absurd H (by simp)
            · rw [if_neg c14] at H
              exact absurd H (by simp)
          · rw [if_neg c12] at H
            exact absurd H (by simp)


/-- What can be read, and is not written, is shared with nobody that writes. -/
theorem batch_Get.shared {w : World} {A : Option Addr} {n c : Nat} {xs : List Int} (h : Kd.C (Kd.int .u8) w A n xs) (hc : n ≤ c) (hn : n = xs.length) : Kd.V (Kd.int .u8) 5 w w.heap.size (fun _ => True) (.slice A n c) xs := by
  subst hn
  refine ⟨A, c, rfl, hc, fun W' hk => ?_⟩
  obtain ⟨_, hm, h0⟩ := h
  refine ⟨rfl, hm, fun hp => ?_⟩
  obtain ⟨ad, e, hcell⟩ := h0 hp
  refine ⟨ad, e, fun j p hj => ?_⟩
  obtain ⟨cs, h1, h2, h3⟩ := hcell j p hj
  refine ⟨cs, h1, h2, fun i u hi => ?_⟩
  have := h3 i u hi
  have hb : W'.heap[(ad.add (j * (Kd.int .u8).sz + i)).block]? = w.heap[(ad.add (j * (Kd.int .u8).sz + i)).block]? := hk _ trivial (World.block_lt_of_cell? w _ this)
  exact (World.cell?_of_block hb).trans this
theorem batch_Get.calls (k : Nat) (A0 : Option Addr) (c0 : Nat) (l0 : List Int) (r1 : Int) (r2 : Int) (r3 : List (S53)) (r4 : Int) (w : World) (hr0 : Kd.C (Kd.int .u8) w A0 l0.length l0) (hc0 : l0.length ≤ c0) (h : batch_Get.f k l0 = some (r1, r2, r3, r4)) :
    Calls Try.prog 18 #[.slice A0 l0.length c0] w fun e w' => ∃ v2_ : Value, e = .returned (.tuple #[.agg #[.int .i64 r1, .int .i64 r2, v2_], .int .i64 r4]) ∧ Kd.R k53 53 w' w.heap.size (fun _ => True) v2_ r3 ∧ Below w.heap.size w w' := by
  refine (batch_Get.callsV k (fun _ => True) A0 c0 l0 r1 r2 r3 r4 w (batch_Get.shared hr0 hc0 rfl) h).mono ?_
  rintro e w' ⟨v, he, hR, hB⟩
  exact ⟨v, he, Kd.R_mono hR (fun _ _ => trivial), hB⟩


end Go.Proofs.Ytepgponpnijonaa.Print
