-- written by this session's program wip/hybrid.py over the kit's printer, and by hand. Not trusted: Lean checks it.
import Derived.Test.YtpcllhhbaockfaaPrint0
namespace Go.Proofs.Ytpcllhhbaockfaa.Print
open Go.RowKit Go.Proofs.YtpcllhhbaockfaaW.PrintWords Go.Proofs.YtpcllhhbaockfaaW.PrintLast Go.Proofs.YtpcllhhbaockfaaW.PrintMore
attribute [local go_sem] max2_int min2_int max_two min_two max_three min_three max_four min_four   -- for this text's walks alone
set_option linter.unusedVariables false
set_option linter.unusedSimpArgs false

/-! ### lombardlaw23_great: function 6 -/
def lombardlaw23_great.l0 : Nat → List (S34) → List (S34) → Int → Int → Option (Bool)
  | 0, _, _, _, _ => none
  | k + 1, x0, x5, x6, x7 => if x7 < x6 then (if 0 ≤ x7 then (if x7 < (x5.length : Int) then (if (((rd_T34 x5 x7).f1.f7).length : Int) > 100 then (some true) else (lombardlaw23_great.l0 k x0 x5 x6 (wrap64 (x7 + 1)))) else (none)) else (none)) else (some (decide ((x0.length : Int) > 100)))
def lombardlaw23_great.f (k : Nat) (l0 : List (S34)) : Option (Bool) := lombardlaw23_great.l0 k l0 l0 (l0.length : Int) 0
theorem lombardlaw23_great.mono_l : ∀ k, (∀ y0 y1 y2 y3, LeO (lombardlaw23_great.l0 k y0 y1 y2 y3) (lombardlaw23_great.l0 (k + 1) y0 y1 y2 y3))
  | 0 => fun _ _ _ _ r h => by simp [lombardlaw23_great.l0] at h
  | k + 1 => by
    have ih0 := lombardlaw23_great.mono_l k
    · intro y0 y1 y2 y3
      unfold lombardlaw23_great.l0
      repeat' first
      | (with_reducible exact ih0 _ _ _ _)
      | (with_reducible exact LeO.refl _)
      | (with_reducible exact LeO.none _)
      | (with_reducible refine LeO.ite ?_ ?_)
      | (with_reducible refine LeO.bind ?_ (fun _ => ?_))
      | exact ih0 _ _ _ _
      | exact LeO.none _
      | refine LeO.ite ?_ ?_
      | refine LeO.bind ?_ (fun _ => ?_)
theorem lombardlaw23_great.mono : ∀ a0 k, LeO (lombardlaw23_great.f k a0) (lombardlaw23_great.f (k + 1) a0) := by
  intro a0 k
  have ih0 := lombardlaw23_great.mono_l k
  unfold lombardlaw23_great.f
  repeat' first
      | (with_reducible exact ih0 _ _ _ _)
      | (with_reducible exact LeO.refl _)
      | (with_reducible exact LeO.none _)
      | (with_reducible refine LeO.ite ?_ ?_)
      | (with_reducible refine LeO.bind ?_ (fun _ => ?_))
      | exact ih0 _ _ _ _
      | exact LeO.none _
      | refine LeO.ite ?_ ?_
      | refine LeO.bind ?_ (fun _ => ?_)
set_option maxHeartbeats 8000000 in
set_option maxRecDepth 100000 in
theorem lombardlaw23_great.calls (k : Nat) (A0 : Option Addr) (c0 : Nat) (l0 : List (S34)) (r : Bool) (w : World) (hr0 : Kd.C k34 w A0 l0.length l0) (hc0 : l0.length ≤ c0) (h : lombardlaw23_great.f k l0 = some r) :
    Calls Try.prog 6 #[.slice A0 l0.length c0] w fun e w' => e = .returned (.bool r) ∧ Below w.heap.size w w' := by
  have hu34 := Try.underlying34
  have HR0 := Aside0.mk hr0
  have HC0 := Aside0.mk hc0
  clear hr0 hc0
  have HB := Aside0.mk (Below.refl w.heap.size w)
  have H : (lombardlaw23_great.l0 k l0 l0 (l0.length : Int) 0) = some r := h
  clear h
  have H' := Aside0.mk H
  clear H
  go_enter Try.func6, Try.ntmps6
  go_wp2
  go_loopg [7] k (fun kq v7 w' => ∃ (x7_1 : Int), v7 = .int .i64 x7_1 ∧ Aside0 (lombardlaw23_great.l0 kq l0 l0 (l0.length : Int) x7_1 = some r) ∧ Aside0 (kq ≤ k) ∧ Aside0 (Below w.heap.size w w'))
  case atStart => exact ⟨(0), (by first | rfl | (simp; done) | (simp [*]; done)), H', ⟨Nat.le_refl _⟩, ⟨by repeat (first | (with_reducible first | exact HB.out | apply below_alloc | apply pw_below_drewN | apply below_drew1) | exact HB.out)⟩⟩
  case round =>
    clear H'
    obtain ⟨x7_1, rfl, HA, HK1, HB⟩ := hrel
    cases gk with
    | zero => exact absurd HA.out (by simp [lombardlaw23_great.l0])
    | succ k1 =>
      have H := HA.out
      clear HA
      simp only [lombardlaw23_great.l0] at H
      by_cases c2 : x7_1 < (l0.length : Int)
      · rw [if_pos c2] at H
        have c2b0 : decide (x7_1 < (l0.length : Int)) = true := decide_eq_true c2
        clear c2
        by_cases c3 : 0 ≤ x7_1
        · rw [if_pos c3] at H
          have c3b0 : decide (0 ≤ x7_1) = true := decide_eq_true c3
          clear c3
          by_cases c4 : x7_1 < (l0.length : Int)
          · rw [if_pos c4] at H
            have c4b0 : decide (x7_1 < (l0.length : Int)) = true := decide_eq_true c4
            clear c4
            by_cases c5 : (((rd_T34 l0 x7_1).f1.f7).length : Int) > 100
            · rw [if_pos c5] at H
              have c5b0 : decide (100 < (((rd_T34 l0 x7_1).f1.f7).length : Int)) = true := decide_eq_true c5
              have c5b1 : decide (100 < ((rd_T34 l0 x7_1).f1.f7).length) = true := decide_eq_true (by omega)
              clear c5
              obtain rfl := Option.some.inj H
              have p114 : 0 ≤ (x7_1 : Int) := of_decide_eq_true (by first | (with_reducible assumption) | assumption)
              have q114 : x7_1 < (l0.length : Int) := of_decide_eq_true (by first | (with_reducible assumption) | assumption)
              obtain ⟨ad114, A114_3, c114_3, A114_10, c114_10, e114, hx114_0, hx114_1, hx114_2, hx114_3, hx114_4, hx114_5, hx114_6, hx114_7, hx114_8, hx114_9, hx114_10, hl114_3, hi114_3, hl114_10, hi114_10⟩ := at_T34 HR0.out x7_1 p114 q114
              cases e114
              replace hx114_0 := (HB.out.cell (World.block_lt_of_cell? w _ hx114_0)).trans hx114_0
              replace hx114_1 := (HB.out.cell (World.block_lt_of_cell? w _ hx114_1)).trans hx114_1
              replace hx114_2 := (HB.out.cell (World.block_lt_of_cell? w _ hx114_2)).trans hx114_2
              replace hx114_3 := (HB.out.cell (World.block_lt_of_cell? w _ hx114_3)).trans hx114_3
              replace hx114_4 := (HB.out.cell (World.block_lt_of_cell? w _ hx114_4)).trans hx114_4
              replace hx114_5 := (HB.out.cell (World.block_lt_of_cell? w _ hx114_5)).trans hx114_5
              replace hx114_6 := (HB.out.cell (World.block_lt_of_cell? w _ hx114_6)).trans hx114_6
              replace hx114_7 := (HB.out.cell (World.block_lt_of_cell? w _ hx114_7)).trans hx114_7
              replace hx114_8 := (HB.out.cell (World.block_lt_of_cell? w _ hx114_8)).trans hx114_8
              replace hx114_9 := (HB.out.cell (World.block_lt_of_cell? w _ hx114_9)).trans hx114_9
              replace hx114_10 := (HB.out.cell (World.block_lt_of_cell? w _ hx114_10)).trans hx114_10
              have HR114_3 := Aside0.mk hi114_3
              have HC114_3 := Aside0.mk hl114_3
              clear hi114_3 hl114_3
              have HR114_10 := Aside0.mk hi114_10
              have HC114_10 := Aside0.mk hl114_10
              clear hi114_10 hl114_10
              replace p114 := eq_true p114
              replace q114 := eq_true q114
              go_wp2_with (first | ((with_reducible refine gate_dst (N := 4) rfl ?_); refine box_event ?hg (N := 4) ?hd (cs := #[.bool false, .int .i64 0, .int .i64 0, .slice none 0 0, .int .i64 0, .int .i64 0, .int .i64 0, .int .i64 0, .int .i64 0, .int .i64 0, .slice none 0 0]) (t := 34) ?hr ?_; (case hd => rfl); (case hg => rfl); (case hr => first | (go_simp; done) | (go_simp; rfl)); intro gb115 hg w6 hbox hb; have n0_ := Aside0.mk (below_step (by repeat (first | (with_reducible first | exact HB.out | apply below_alloc | apply pw_below_drewN | apply below_drew1) | exact HB.out)) hb); have n1_ := Aside0.mk (hbox); have n2_ := Aside0.mk ((by rw [hg]; exact (below_size (by repeat (first | (with_reducible first | exact HB.out | apply below_alloc | apply pw_below_drewN | apply below_drew1) | exact HB.out))) : w.heap.size ≤ gb115)); have n3_ := Aside0.mk ((by rw [hg]; exact (below_size (by repeat (first | (with_reducible first | exact HB.out | apply below_alloc | apply pw_below_drewN | apply below_drew1) | exact HB.out))) : w.heap.size ≤ gb115)); clear HB; have HB := n0_; have BK115 := n1_; have GW115 := n2_; have GE115 := n3_; clear n0_ n1_ n2_ n3_; clear hb hbox hg; have hcz7_0 : w6.cell? ⟨gb115, 0, none⟩ = some (.bool false) := (blk_cell BK115.out 0).trans rfl; have hcz7_1 : w6.cell? ⟨gb115, 1, none⟩ = some (.int .i64 0) := (blk_cell BK115.out 1).trans rfl; have hcz7_2 : w6.cell? ⟨gb115, 2, none⟩ = some (.int .i64 0) := (blk_cell BK115.out 2).trans rfl; have hcz7_3 : w6.cell? ⟨gb115, 3, none⟩ = some (.slice none 0 0) := (blk_cell BK115.out 3).trans rfl; have hcz7_4 : w6.cell? ⟨gb115, 4, none⟩ = some (.int .i64 0) := (blk_cell BK115.out 4).trans rfl; have hcz7_5 : w6.cell? ⟨gb115, 5, none⟩ = some (.int .i64 0) := (blk_cell BK115.out 5).trans rfl; have hcz7_6 : w6.cell? ⟨gb115, 6, none⟩ = some (.int .i64 0) := (blk_cell BK115.out 6).trans rfl; have hcz7_7 : w6.cell? ⟨gb115, 7, none⟩ = some (.int .i64 0) := (blk_cell BK115.out 7).trans rfl; have hcz7_8 : w6.cell? ⟨gb115, 8, none⟩ = some (.int .i64 0) := (blk_cell BK115.out 8).trans rfl; have hcz7_9 : w6.cell? ⟨gb115, 9, none⟩ = some (.int .i64 0) := (blk_cell BK115.out 9).trans rfl; have hcz7_10 : w6.cell? ⟨gb115, 10, none⟩ = some (.slice none 0 0) := (blk_cell BK115.out 10).trans rfl; have hfz7_0 := blk_frozen BK115.out 0; have hfz7_1 := blk_frozen BK115.out 1; have hfz7_2 := blk_frozen BK115.out 2; have hfz7_3 := blk_frozen BK115.out 3; have hfz7_4 := blk_frozen BK115.out 4; have hfz7_5 := blk_frozen BK115.out 5; have hfz7_6 := blk_frozen BK115.out 6; have hfz7_7 := blk_frozen BK115.out 7; have hfz7_8 := blk_frozen BK115.out 8; have hfz7_9 := blk_frozen BK115.out 9; have hfz7_10 := blk_frozen BK115.out 10))
              go_ret
              exact ⟨by first | rfl | (simp [errW_none, errW_some] <;> rfl) | (simp [*, errW_none, errW_some] <;> rfl), by repeat (first | (with_reducible first | exact HB.out | apply below_alloc | apply pw_below_drewN | apply below_drew1 | refine below_set ?_ GE115.out) | exact HB.out)⟩
            · rw [if_neg c5] at H
              have c5b0 : decide (100 < (((rd_T34 l0 x7_1).f1.f7).length : Int)) = false := decide_eq_false c5
              have c5b1 : decide (100 < ((rd_T34 l0 x7_1).f1.f7).length) = false := decide_eq_false (by omega)
              clear c5
              have H' := Aside0.mk H
              clear H
              have p114 : 0 ≤ (x7_1 : Int) := of_decide_eq_true (by first | (with_reducible assumption) | assumption)
              have q114 : x7_1 < (l0.length : Int) := of_decide_eq_true (by first | (with_reducible assumption) | assumption)
              obtain ⟨ad114, A114_3, c114_3, A114_10, c114_10, e114, hx114_0, hx114_1, hx114_2, hx114_3, hx114_4, hx114_5, hx114_6, hx114_7, hx114_8, hx114_9, hx114_10, hl114_3, hi114_3, hl114_10, hi114_10⟩ := at_T34 HR0.out x7_1 p114 q114
              cases e114
              replace hx114_0 := (HB.out.cell (World.block_lt_of_cell? w _ hx114_0)).trans hx114_0
              replace hx114_1 := (HB.out.cell (World.block_lt_of_cell? w _ hx114_1)).trans hx114_1
              replace hx114_2 := (HB.out.cell (World.block_lt_of_cell? w _ hx114_2)).trans hx114_2
              replace hx114_3 := (HB.out.cell (World.block_lt_of_cell? w _ hx114_3)).trans hx114_3
              replace hx114_4 := (HB.out.cell (World.block_lt_of_cell? w _ hx114_4)).trans hx114_4
              replace hx114_5 := (HB.out.cell (World.block_lt_of_cell? w _ hx114_5)).trans hx114_5
              replace hx114_6 := (HB.out.cell (World.block_lt_of_cell? w _ hx114_6)).trans hx114_6
              replace hx114_7 := (HB.out.cell (World.block_lt_of_cell? w _ hx114_7)).trans hx114_7
              replace hx114_8 := (HB.out.cell (World.block_lt_of_cell? w _ hx114_8)).trans hx114_8
              replace hx114_9 := (HB.out.cell (World.block_lt_of_cell? w _ hx114_9)).trans hx114_9
              replace hx114_10 := (HB.out.cell (World.block_lt_of_cell? w _ hx114_10)).trans hx114_10
              have HR114_3 := Aside0.mk hi114_3
              have HC114_3 := Aside0.mk hl114_3
              clear hi114_3 hl114_3
              have HR114_10 := Aside0.mk hi114_10
              have HC114_10 := Aside0.mk hl114_10
              clear hi114_10 hl114_10
              replace p114 := eq_true p114
              replace q114 := eq_true q114
              go_wp2_with (first | ((with_reducible refine gate_dst (N := 4) rfl ?_); refine box_event ?hg (N := 4) ?hd (cs := #[.bool false, .int .i64 0, .int .i64 0, .slice none 0 0, .int .i64 0, .int .i64 0, .int .i64 0, .int .i64 0, .int .i64 0, .int .i64 0, .slice none 0 0]) (t := 34) ?hr ?_; (case hd => rfl); (case hg => rfl); (case hr => first | (go_simp; done) | (go_simp; rfl)); intro gb115 hg w8 hbox hb; have n0_ := Aside0.mk (below_step (by repeat (first | (with_reducible first | exact HB.out | apply below_alloc | apply pw_below_drewN | apply below_drew1) | exact HB.out)) hb); have n1_ := Aside0.mk (hbox); have n2_ := Aside0.mk ((by rw [hg]; exact (below_size (by repeat (first | (with_reducible first | exact HB.out | apply below_alloc | apply pw_below_drewN | apply below_drew1) | exact HB.out))) : w.heap.size ≤ gb115)); have n3_ := Aside0.mk ((by rw [hg]; exact (below_size (by repeat (first | (with_reducible first | exact HB.out | apply below_alloc | apply pw_below_drewN | apply below_drew1) | exact HB.out))) : w.heap.size ≤ gb115)); clear HB; have HB := n0_; have BK115 := n1_; have GW115 := n2_; have GE115 := n3_; clear n0_ n1_ n2_ n3_; clear hb hbox hg; have hcz9_0 : w8.cell? ⟨gb115, 0, none⟩ = some (.bool false) := (blk_cell BK115.out 0).trans rfl; have hcz9_1 : w8.cell? ⟨gb115, 1, none⟩ = some (.int .i64 0) := (blk_cell BK115.out 1).trans rfl; have hcz9_2 : w8.cell? ⟨gb115, 2, none⟩ = some (.int .i64 0) := (blk_cell BK115.out 2).trans rfl; have hcz9_3 : w8.cell? ⟨gb115, 3, none⟩ = some (.slice none 0 0) := (blk_cell BK115.out 3).trans rfl; have hcz9_4 : w8.cell? ⟨gb115, 4, none⟩ = some (.int .i64 0) := (blk_cell BK115.out 4).trans rfl; have hcz9_5 : w8.cell? ⟨gb115, 5, none⟩ = some (.int .i64 0) := (blk_cell BK115.out 5).trans rfl; have hcz9_6 : w8.cell? ⟨gb115, 6, none⟩ = some (.int .i64 0) := (blk_cell BK115.out 6).trans rfl; have hcz9_7 : w8.cell? ⟨gb115, 7, none⟩ = some (.int .i64 0) := (blk_cell BK115.out 7).trans rfl; have hcz9_8 : w8.cell? ⟨gb115, 8, none⟩ = some (.int .i64 0) := (blk_cell BK115.out 8).trans rfl; have hcz9_9 : w8.cell? ⟨gb115, 9, none⟩ = some (.int .i64 0) := (blk_cell BK115.out 9).trans rfl; have hcz9_10 : w8.cell? ⟨gb115, 10, none⟩ = some (.slice none 0 0) := (blk_cell BK115.out 10).trans rfl; have hfz9_0 := blk_frozen BK115.out 0; have hfz9_1 := blk_frozen BK115.out 1; have hfz9_2 := blk_frozen BK115.out 2; have hfz9_3 := blk_frozen BK115.out 3; have hfz9_4 := blk_frozen BK115.out 4; have hfz9_5 := blk_frozen BK115.out 5; have hfz9_6 := blk_frozen BK115.out 6; have hfz9_7 := blk_frozen BK115.out 7; have hfz9_8 := blk_frozen BK115.out 8; have hfz9_9 := blk_frozen BK115.out 9; have hfz9_10 := blk_frozen BK115.out 10))
              go_roundg k1
              case measure => have := HK1.out; omega
              case rel => exact ⟨(wrap64 (x7_1 + 1)), (by first | rfl | (simp; done) | (simp [*]; done)), H', ⟨by have := HK1.out; omega⟩, ⟨by repeat (first | (with_reducible first | exact HB.out | apply below_alloc | apply pw_below_drewN | apply below_drew1 | refine below_set ?_ GE115.out) | exact HB.out)⟩⟩
          · rw [if_neg c4] at H
            exact absurd H (by simp)
        · rw [if_neg c3] at H
          exact absurd H (by simp)
      · rw [if_neg c2] at H
        have c2b0 : decide (x7_1 < (l0.length : Int)) = false := decide_eq_false c2
        clear c2
        obtain rfl := Option.some.inj H
        go_wp2
        go_ret
        exact ⟨by first | rfl | (simp [errW_none, errW_some] <;> rfl) | (simp [*, errW_none, errW_some] <;> rfl), by repeat (first | (with_reducible first | exact HB.out | apply below_alloc | apply pw_below_drewN | apply below_drew1) | exact HB.out)⟩

end Go.Proofs.Ytpcllhhbaockfaa.Print
