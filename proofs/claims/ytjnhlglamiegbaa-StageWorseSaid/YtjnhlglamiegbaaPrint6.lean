-- written by this session's program wip/hybrid.py over the kit's printer, and by hand. Not trusted: Lean checks it.
import Derived.Test.YtjnhlglamiegbaaPrint0
namespace Go.Proofs.Ytjnhlglamiegbaa.Print
open Go.RowKit Go.Proofs.YtjnhlglamiegbaaW.PrintWords Go.Proofs.YtjnhlglamiegbaaW.PrintLast Go.Proofs.YtjnhlglamiegbaaW.PrintMore
attribute [local go_sem] max2_int min2_int max_two min_two max_three min_three max_four min_four   -- for this text's walks alone
set_option linter.unusedVariables false
set_option linter.unusedSimpArgs false

/-! ### lombardref14_Worst: function 12 -/
def lombardref14_Worst.j0 : Nat → Bool → Int → Int → Bool → Option (Int)
  | 0, _, _, _, _ => none
  | k + 1, x9, x133000, x133001, x133002 => if x9 = true then (some 3) else (if x133000 ≥ 30 then (some 2) else (if x133001 ≥ 3 then (some 2) else (some 1)))
def lombardref14_Worst.f (k : Nat) (a0_0 : Int) (a0_1 : Int) (a0_2 : Bool) : Option (Int) := if a0_2 = true then (lombardref14_Worst.j0 k true a0_0 a0_1 a0_2) else (lombardref14_Worst.j0 k (decide (a0_0 ≥ 90)) a0_0 a0_1 a0_2)
theorem lombardref14_Worst.mono_l : ∀ k, (∀ y0 y1 y2 y3, LeO (lombardref14_Worst.j0 k y0 y1 y2 y3) (lombardref14_Worst.j0 (k + 1) y0 y1 y2 y3))
  | 0 => fun _ _ _ _ r h => by simp [lombardref14_Worst.j0] at h
  | k + 1 => by
    have ih0 := lombardref14_Worst.mono_l k
    · intro y0 y1 y2 y3
      unfold lombardref14_Worst.j0
      repeat' first
      | (with_reducible exact ih0 _ _ _ _)
      | (with_reducible exact LeO.refl _)
      | (with_reducible exact LeO.none _)
      | (with_reducible refine LeO.ite ?_ ?_)
      | (with_reducible refine LeO.bind ?_ (fun _ => ?_))
      | exact ih0 _ _ _ _
      | exact LeO.none _
      | refine LeO.ite ?_ ?_
      | refine LeO.bind ?_ (fun _ => ?_)
theorem lombardref14_Worst.mono : ∀ a0 a1 a2 k, LeO (lombardref14_Worst.f k a0 a1 a2) (lombardref14_Worst.f (k + 1) a0 a1 a2) := by
  intro a0 a1 a2 k
  have ih0 := lombardref14_Worst.mono_l k
  unfold lombardref14_Worst.f
  repeat' first
      | (with_reducible exact ih0 _ _ _ _)
      | (with_reducible exact LeO.refl _)
      | (with_reducible exact LeO.none _)
      | (with_reducible refine LeO.ite ?_ ?_)
      | (with_reducible refine LeO.bind ?_ (fun _ => ?_))
      | exact ih0 _ _ _ _
      | exact LeO.none _
      | refine LeO.ite ?_ ?_
      | refine LeO.bind ?_ (fun _ => ?_)
set_option maxHeartbeats 8000000 in
set_option maxRecDepth 100000 in
theorem lombardref14_Worst.calls (k : Nat) (a0_0 : Int) (a0_1 : Int) (a0_2 : Bool) (r : Int) (w : World) (h : lombardref14_Worst.f k a0_0 a0_1 a0_2 = some r) :
    Calls Try.prog 12 #[.agg #[.int .i64 a0_0, .int .i64 a0_1, .bool a0_2]] w fun e w' => e = .returned (.int .i64 r) ∧ Below w.heap.size w w' := by
  have hu25 := Try.underlying25
  have HB := Aside0.mk (Below.refl w.heap.size w)
  have H : (if a0_2 = true then (lombardref14_Worst.j0 k true a0_0 a0_1 a0_2) else (lombardref14_Worst.j0 k (decide (a0_0 ≥ 90)) a0_0 a0_1 a0_2)) = some r := h
  clear h
  have HC2 := Aside0.mk H
  clear H
  go_enter Try.func12, Try.ntmps12
  go_upto_region 1 with (first | ((with_reducible refine gate_dst (N := 1) rfl ?_); refine box_event ?hg (N := 1) ?hd (cs := #[.int .i64 a0_0, .int .i64 a0_1, .bool a0_2]) (t := 25) ?hr ?_; (case hd => rfl); (case hg => rfl); (case hr => first | (go_simp; done) | (go_simp; rfl)); intro gb132 hg w3 hbox hb; have n0_ := Aside0.mk (below_step (by repeat (first | (with_reducible first | exact HB.out | apply below_alloc | apply pw_below_drewN | apply below_drew1) | exact HB.out)) hb); have n1_ := Aside0.mk (hbox); have n2_ := Aside0.mk ((by rw [hg]; exact (below_size (by repeat (first | (with_reducible first | exact HB.out | apply below_alloc | apply pw_below_drewN | apply below_drew1) | exact HB.out))) : w.heap.size ≤ gb132)); have n3_ := Aside0.mk ((by rw [hg]; exact (below_size (by repeat (first | (with_reducible first | exact HB.out | apply below_alloc | apply pw_below_drewN | apply below_drew1) | exact HB.out))) : w.heap.size ≤ gb132)); clear HB; have HB := n0_; have BK132 := n1_; have GW132 := n2_; have GE132 := n3_; clear n0_ n1_ n2_ n3_; clear hb hbox hg))
  (try simp only [Act.put, List.setIfInBounds_toArray, List.set_cons_zero, List.set_cons_succ])
  go_cut [9] (fun v9 wc => ∃ (kq : Nat) (x9_1 : Bool), v9 = .bool x9_1 ∧ Aside0 (lombardref14_Worst.j0 kq x9_1 a0_0 a0_1 a0_2 = some r) ∧ Aside0 (kq ≤ k) ∧ Aside0 (wc.heap[gb132]? = some (.cells #[.int .i64 a0_0, .int .i64 a0_1, .bool a0_2] 25 (0, 0))) ∧ Aside0 (Below w.heap.size w wc))
  case first =>
    have H := HC2.out
    clear HC2
    by_cases c4 : a0_2 = true
    · subst c4
      have H1 : (lombardref14_Worst.j0 k true a0_0 a0_1 true) = some r := by rw [if_pos rfl] at H; exact H
      clear H
      have H := H1
      clear H1
      have H' := Aside0.mk H
      clear H
      have hcz5_0 : w3.cell? ⟨gb132, 0, none⟩ = some (.int .i64 a0_0) := (blk_cell BK132.out 0).trans rfl
      have hcz5_1 : w3.cell? ⟨gb132, 1, none⟩ = some (.int .i64 a0_1) := (blk_cell BK132.out 1).trans rfl
      have hcz5_2 : w3.cell? ⟨gb132, 2, none⟩ = some (.bool true) := (blk_cell BK132.out 2).trans rfl
      have hfz5_0 := blk_frozen BK132.out 0
      have hfz5_1 := blk_frozen BK132.out 1
      have hfz5_2 := blk_frozen BK132.out 2
      go_wp2
      go_meet
      case rel => exact ⟨_, (true), (by first | rfl | (simp; done) | (simp [*]; done)), H', ⟨by first | omega | exact Nat.le_refl _⟩, ⟨by (with_reducible repeat (first | refine blk_drewN ?_ _ | refine blk_drew ?_ | refine blk_alloc ?_ _)); exact BK132.out⟩, ⟨by repeat (first | (with_reducible first | exact HB.out | apply below_alloc | apply pw_below_drewN | apply below_drew1 | refine below_set ?_ GE132.out) | exact HB.out)⟩⟩
    · replace c4 := Bool.eq_false_iff.mpr c4
      subst c4
      have H1 : (lombardref14_Worst.j0 k (decide (a0_0 ≥ 90)) a0_0 a0_1 false) = some r := by rw [if_neg (show ¬ (false = true) by decide)] at H; exact H
      clear H
      have H := H1
      clear H1
      have H' := Aside0.mk H
      clear H
      have hcz6_0 : w3.cell? ⟨gb132, 0, none⟩ = some (.int .i64 a0_0) := (blk_cell BK132.out 0).trans rfl
      have hcz6_1 : w3.cell? ⟨gb132, 1, none⟩ = some (.int .i64 a0_1) := (blk_cell BK132.out 1).trans rfl
      have hcz6_2 : w3.cell? ⟨gb132, 2, none⟩ = some (.bool false) := (blk_cell BK132.out 2).trans rfl
      have hfz6_0 := blk_frozen BK132.out 0
      have hfz6_1 := blk_frozen BK132.out 1
      have hfz6_2 := blk_frozen BK132.out 2
      go_wp2
      go_meet
      case rel => exact ⟨_, (decide (a0_0 ≥ 90)), (by first | rfl | (simp; done) | (simp [*]; done)), H', ⟨by first | omega | exact Nat.le_refl _⟩, ⟨by (with_reducible repeat (first | refine blk_drewN ?_ _ | refine blk_drew ?_ | refine blk_alloc ?_ _)); exact BK132.out⟩, ⟨by repeat (first | (with_reducible first | exact HB.out | apply below_alloc | apply pw_below_drewN | apply below_drew1 | refine below_set ?_ GE132.out) | exact HB.out)⟩⟩
  case rest =>
    clear HC2
    try clear c1
    try clear p2
    try clear c4
    try clear hcz5_0
    try clear hcz5_1
    try clear hcz5_2
    try clear hcz6_0
    try clear hcz6_1
    try clear hcz6_2
    try clear hfz5_0
    try clear hfz5_1
    try clear hfz5_2
    try clear hfz6_0
    try clear hfz6_1
    try clear hfz6_2
    obtain ⟨kq, x9_1, rfl, HA, HJ1, BK132, HB⟩ := hcut
    cases kq with
    | zero => exact absurd HA.out (by simp [lombardref14_Worst.j0])
    | succ kj1 =>
      have H := HA.out
      clear HA
      simp only [lombardref14_Worst.j0] at H
      by_cases c7 : x9_1 = true
      · subst c7
        have H1 : (some 3) = some r := by rw [if_pos rfl] at H; exact H
        clear H
        have H := H1
        clear H1
        obtain rfl := Option.some.inj H
        go_wp2
        go_ret
        exact ⟨by first | rfl | (simp [errW_none, errW_some] <;> rfl) | (simp [*, errW_none, errW_some] <;> rfl), by repeat (first | (with_reducible first | exact HB.out | apply below_alloc | apply pw_below_drewN | apply below_drew1 | refine below_set ?_ GE132.out) | exact HB.out)⟩
      · replace c7 := Bool.eq_false_iff.mpr c7
        subst c7
        have H1 : (if a0_0 ≥ 30 then (some 2) else (if a0_1 ≥ 3 then (some 2) else (some 1))) = some r := by rw [if_neg (show ¬ (false = true) by decide)] at H; exact H
        clear H
        have H := H1
        clear H1
        by_cases c8 : a0_0 ≥ 30
        · rw [if_pos c8] at H
          have c8b0 : decide (30 ≤ a0_0) = true := decide_eq_true c8
          clear c8
          obtain rfl := Option.some.inj H
          have hcz9_0 : wc.cell? ⟨gb132, 0, none⟩ = some (.int .i64 a0_0) := (blk_cell BK132.out 0).trans rfl
          have hcz9_1 : wc.cell? ⟨gb132, 1, none⟩ = some (.int .i64 a0_1) := (blk_cell BK132.out 1).trans rfl
          have hcz9_2 : wc.cell? ⟨gb132, 2, none⟩ = some (.bool a0_2) := (blk_cell BK132.out 2).trans rfl
          have hfz9_0 := blk_frozen BK132.out 0
          have hfz9_1 := blk_frozen BK132.out 1
          have hfz9_2 := blk_frozen BK132.out 2
          go_wp2
          go_ret
          exact ⟨by first | rfl | (simp [errW_none, errW_some] <;> rfl) | (simp [*, errW_none, errW_some] <;> rfl), by repeat (first | (with_reducible first | exact HB.out | apply below_alloc | apply pw_below_drewN | apply below_drew1 | refine below_set ?_ GE132.out) | exact HB.out)⟩
        · rw [if_neg c8] at H
          have c8b0 : decide (30 ≤ a0_0) = false := decide_eq_false c8
          clear c8
          by_cases c10 : a0_1 ≥ 3
          · rw [if_pos c10] at H
            have c10b0 : decide (3 ≤ a0_1) = true := decide_eq_true c10
            clear c10
            obtain rfl := Option.some.inj H
            have hcz11_0 : wc.cell? ⟨gb132, 0, none⟩ = some (.int .i64 a0_0) := (blk_cell BK132.out 0).trans rfl
            have hcz11_1 : wc.cell? ⟨gb132, 1, none⟩ = some (.int .i64 a0_1) := (blk_cell BK132.out 1).trans rfl
            have hcz11_2 : wc.cell? ⟨gb132, 2, none⟩ = some (.bool a0_2) := (blk_cell BK132.out 2).trans rfl
            have hfz11_0 := blk_frozen BK132.out 0
            have hfz11_1 := blk_frozen BK132.out 1
            have hfz11_2 := blk_frozen BK132.out 2
            go_wp2
            go_ret
            exact ⟨by first | rfl | (simp [errW_none, errW_some] <;> rfl) | (simp [*, errW_none, errW_some] <;> rfl), by repeat (first | (with_reducible first | exact HB.out | apply below_alloc | apply pw_below_drewN | apply below_drew1 | refine below_set ?_ GE132.out) | exact HB.out)⟩
          · rw [if_neg c10] at H
            have c10b0 : decide (3 ≤ a0_1) = false := decide_eq_false c10
            clear c10
            obtain rfl := Option.some.inj H
            have hcz12_0 : wc.cell? ⟨gb132, 0, none⟩ = some (.int .i64 a0_0) := (blk_cell BK132.out 0).trans rfl
            have hcz12_1 : wc.cell? ⟨gb132, 1, none⟩ = some (.int .i64 a0_1) := (blk_cell BK132.out 1).trans rfl
            have hcz12_2 : wc.cell? ⟨gb132, 2, none⟩ = some (.bool a0_2) := (blk_cell BK132.out 2).trans rfl
            have hfz12_0 := blk_frozen BK132.out 0
            have hfz12_1 := blk_frozen BK132.out 1
            have hfz12_2 := blk_frozen BK132.out 2
            go_wp2
            go_ret
            exact ⟨by first | rfl | (simp [errW_none, errW_some] <;> rfl) | (simp [*, errW_none, errW_some] <;> rfl), by repeat (first | (with_reducible first | exact HB.out | apply below_alloc | apply pw_below_drewN | apply below_drew1 | refine below_set ?_ GE132.out) | exact HB.out)⟩

/-! ### lombardref14_Next: function 10 -/
def lombardref14_Next.j0 : Nat → Bool → Int → Int → Int → Int → Bool → Option (Int × Int × Int)
  | 0, _, _, _, _, _, _ => none
  | k + 1, x54, x134000, x134001, x135000, x135001, x135002 => if x54 = true then (some (0, 0, 2)) else ((lombardref14_Worst.f k x135000 x135001 x135002).bind fun t136 => (if t136 ≥ x134000 then (some (t136, 0, 0)) else (if x134001 = 2 then (some (wrap64 (x134000 - 1), 0, 0)) else (some (x134000, wrap64 (x134001 + 1), 0)))))
def lombardref14_Next.f (k : Nat) (a0_0 : Int) (a0_1 : Int) (a1_0 : Int) (a1_1 : Int) (a1_2 : Bool) : Option (Int × Int × Int) := if a1_0 < 0 then (lombardref14_Next.j0 k true a0_0 a0_1 a1_0 a1_1 a1_2) else (if a1_0 > 10000 then (lombardref14_Next.j0 k true a0_0 a0_1 a1_0 a1_1 a1_2) else (if a1_1 < (-100) then (lombardref14_Next.j0 k true a0_0 a0_1 a1_0 a1_1 a1_2) else (if a1_1 > 100 then (lombardref14_Next.j0 k true a0_0 a0_1 a1_0 a1_1 a1_2) else (if a0_0 < 1 then (lombardref14_Next.j0 k true a0_0 a0_1 a1_0 a1_1 a1_2) else (if a0_0 > 3 then (lombardref14_Next.j0 k true a0_0 a0_1 a1_0 a1_1 a1_2) else (if a0_1 < 0 then (lombardref14_Next.j0 k true a0_0 a0_1 a1_0 a1_1 a1_2) else (if a0_1 > 2 then (lombardref14_Next.j0 k true a0_0 a0_1 a1_0 a1_1 a1_2) else (if a0_0 = 1 then (lombardref14_Next.j0 k (a0_1 != 0) a0_0 a0_1 a1_0 a1_1 a1_2) else (lombardref14_Next.j0 k false a0_0 a0_1 a1_0 a1_1 a1_2)))))))))
theorem lombardref14_Next.mono_l : ∀ k, (∀ y0 y1 y2 y3 y4 y5, LeO (lombardref14_Next.j0 k y0 y1 y2 y3 y4 y5) (lombardref14_Next.j0 (k + 1) y0 y1 y2 y3 y4 y5))
  | 0 => fun _ _ _ _ _ _ r h => by simp [lombardref14_Next.j0] at h
  | k + 1 => by
    have ih0 := lombardref14_Next.mono_l k
    · intro y0 y1 y2 y3 y4 y5
      unfold lombardref14_Next.j0
      repeat' first
      | (with_reducible exact ih0 _ _ _ _ _ _)
      | (with_reducible exact lombardref14_Worst.mono _ _ _ _)
      | (with_reducible exact LeO.refl _)
      | (with_reducible exact LeO.none _)
      | (with_reducible refine LeO.ite ?_ ?_)
      | (with_reducible refine LeO.bind ?_ (fun _ => ?_))
      | exact ih0 _ _ _ _ _ _
      | exact lombardref14_Worst.mono _ _ _ _
      | exact LeO.none _
      | refine LeO.ite ?_ ?_
      | refine LeO.bind ?_ (fun _ => ?_)
theorem lombardref14_Next.mono : ∀ a0 a1 a2 a3 a4 k, LeO (lombardref14_Next.f k a0 a1 a2 a3 a4) (lombardref14_Next.f (k + 1) a0 a1 a2 a3 a4) := by
  intro a0 a1 a2 a3 a4 k
  have ih0 := lombardref14_Next.mono_l k
  unfold lombardref14_Next.f
  repeat' first
      | (with_reducible exact ih0 _ _ _ _ _ _)
      | (with_reducible exact lombardref14_Worst.mono _ _ _ _)
      | (with_reducible exact LeO.refl _)
      | (with_reducible exact LeO.none _)
      | (with_reducible refine LeO.ite ?_ ?_)
      | (with_reducible refine LeO.bind ?_ (fun _ => ?_))
      | exact ih0 _ _ _ _ _ _
      | exact lombardref14_Worst.mono _ _ _ _
      | exact LeO.none _
      | refine LeO.ite ?_ ?_
      | refine LeO.bind ?_ (fun _ => ?_)
set_option maxHeartbeats 8000000 in
set_option maxRecDepth 100000 in
theorem lombardref14_Next.calls (k : Nat) (a0_0 : Int) (a0_1 : Int) (a1_0 : Int) (a1_1 : Int) (a1_2 : Bool) (r1 : Int) (r2 : Int) (r3 : Int) (w : World) (h : lombardref14_Next.f k a0_0 a0_1 a1_0 a1_1 a1_2 = some (r1, r2, r3)) :
    Calls Try.prog 10 #[.agg #[.int .i64 a0_0, .int .i64 a0_1], .agg #[.int .i64 a1_0, .int .i64 a1_1, .bool a1_2]] w fun e w' => e = .returned (.tuple #[.agg #[.int .i64 r1, .int .i64 r2], .int .i64 r3]) ∧ Below w.heap.size w w' := by
  have hu23 := Try.underlying23
  have hu25 := Try.underlying25
  have HB := Aside0.mk (Below.refl w.heap.size w)
  have H : (if a1_0 < 0 then (lombardref14_Next.j0 k true a0_0 a0_1 a1_0 a1_1 a1_2) else (if a1_0 > 10000 then (lombardref14_Next.j0 k true a0_0 a0_1 a1_0 a1_1 a1_2) else (if a1_1 < (-100) then (lombardref14_Next.j0 k true a0_0 a0_1 a1_0 a1_1 a1_2) else (if a1_1 > 100 then (lombardref14_Next.j0 k true a0_0 a0_1 a1_0 a1_1 a1_2) else (if a0_0 < 1 then (lombardref14_Next.j0 k true a0_0 a0_1 a1_0 a1_1 a1_2) else (if a0_0 > 3 then (lombardref14_Next.j0 k true a0_0 a0_1 a1_0 a1_1 a1_2) else (if a0_1 < 0 then (lombardref14_Next.j0 k true a0_0 a0_1 a1_0 a1_1 a1_2) else (if a0_1 > 2 then (lombardref14_Next.j0 k true a0_0 a0_1 a1_0 a1_1 a1_2) else (if a0_0 = 1 then (lombardref14_Next.j0 k (a0_1 != 0) a0_0 a0_1 a1_0 a1_1 a1_2) else (lombardref14_Next.j0 k false a0_0 a0_1 a1_0 a1_1 a1_2)))))))))) = some (r1, r2, r3) := h
  clear h
  have HC3 := Aside0.mk H
  clear H
  go_enter Try.func10, Try.ntmps10
  go_upto_region 1 with (first | ((with_reducible refine gate_dst (N := 2) rfl ?_); refine box_event ?hg (N := 2) ?hd (cs := #[.int .i64 a0_0, .int .i64 a0_1]) (t := 23) ?hr ?_; (case hd => rfl); (case hg => rfl); (case hr => first | (go_simp; done) | (go_simp; rfl)); intro gb133 hg w4 hbox hb; have n0_ := Aside0.mk (below_step (by repeat (first | (with_reducible first | exact HB.out | apply below_alloc | apply pw_below_drewN | apply below_drew1) | exact HB.out)) hb); have n1_ := Aside0.mk (hbox); have n2_ := Aside0.mk ((by rw [hg]; exact (below_size (by repeat (first | (with_reducible first | exact HB.out | apply below_alloc | apply pw_below_drewN | apply below_drew1) | exact HB.out))) : w.heap.size ≤ gb133)); have n3_ := Aside0.mk ((by rw [hg]; exact (below_size (by repeat (first | (with_reducible first | exact HB.out | apply below_alloc | apply pw_below_drewN | apply below_drew1) | exact HB.out))) : w.heap.size ≤ gb133)); clear HB; have HB := n0_; have BK133 := n1_; have GW133 := n2_; have GE133 := n3_; clear n0_ n1_ n2_ n3_; clear hb hbox hg) | ((with_reducible refine gate_dst (N := 3) rfl ?_); refine box_event ?hg (N := 3) ?hd (cs := #[.int .i64 a1_0, .int .i64 a1_1, .bool a1_2]) (t := 25) ?hr ?_; (case hd => rfl); (case hg => rfl); (case hr => first | (go_simp; done) | (go_simp; rfl)); intro gb134 hg w5 hbox hb; have n0_ := Aside0.mk (blk_below (g := gb133) (o := .cells #[.int .i64 a0_0, .int .i64 a0_1] 23 (0, 0)) (by (with_reducible repeat (first | refine blk_drewN ?_ _ | refine blk_drew ?_ | refine blk_alloc ?_ _)); exact BK133.out) hb); have n1_ := Aside0.mk (below_step (by repeat (first | (with_reducible first | exact HB.out | apply below_alloc | apply pw_below_drewN | apply below_drew1 | refine below_set ?_ GE133.out) | exact HB.out)) hb); have n2_ := Aside0.mk (hbox); have n3_ := Aside0.mk ((by rw [hg]; exact (below_size (by repeat (first | (with_reducible first | exact HB.out | apply below_alloc | apply pw_below_drewN | apply below_drew1 | refine below_set ?_ GE133.out) | exact HB.out))) : w.heap.size ≤ gb134)); have n4_ := Aside0.mk ((by rw [hg]; exact (below_size (by repeat (first | (with_reducible first | exact HB.out | apply below_alloc | apply pw_below_drewN | apply below_drew1 | refine below_set ?_ GE133.out) | exact HB.out))) : w.heap.size ≤ gb134)); have n5_ := Aside0.mk ((by rw [hg]; exact Nat.ne_of_lt (blk_lt (g := gb133) (o := .cells #[.int .i64 a0_0, .int .i64 a0_1] 23 (0, 0)) (by (with_reducible repeat (first | refine blk_drewN ?_ _ | refine blk_drew ?_ | refine blk_alloc ?_ _)); exact BK133.out)) : gb133 ≠ gb134)); have n6_ := Aside0.mk ((by rw [hg]; exact Nat.ne_of_gt (blk_lt (g := gb133) (o := .cells #[.int .i64 a0_0, .int .i64 a0_1] 23 (0, 0)) (by (with_reducible repeat (first | refine blk_drewN ?_ _ | refine blk_drew ?_ | refine blk_alloc ?_ _)); exact BK133.out)) : gb134 ≠ gb133)); clear BK133; clear HB; have BK133 := n0_; have HB := n1_; have BK134 := n2_; have GW134 := n3_; have GE134 := n4_; have NB133_134 := n5_; have NB134_133 := n6_; clear n0_ n1_ n2_ n3_ n4_ n5_ n6_; clear hb hbox hg) | ((with_reducible refine gate_dst (N := 4) rfl ?_); refine box_event ?hg (N := 4) ?hd (cs := #[.int .i64 0, .int .i64 0]) (t := 23) ?hr ?_; (case hd => rfl); (case hg => rfl); (case hr => first | (go_simp; done) | (go_simp; rfl)); intro gb135 hg w6 hbox hb; have n0_ := Aside0.mk (blk_below (g := gb133) (o := .cells #[.int .i64 a0_0, .int .i64 a0_1] 23 (0, 0)) (by (with_reducible repeat (first | refine blk_drewN ?_ _ | refine blk_drew ?_ | refine blk_alloc ?_ _)); exact BK133.out) hb); have n1_ := Aside0.mk (blk_below (g := gb134) (o := .cells #[.int .i64 a1_0, .int .i64 a1_1, .bool a1_2] 25 (0, 0)) (by (with_reducible repeat (first | refine blk_drewN ?_ _ | refine blk_drew ?_ | refine blk_alloc ?_ _)); exact BK134.out) hb); have n2_ := Aside0.mk (below_step (by repeat (first | (with_reducible first | exact HB.out | apply below_alloc | apply pw_below_drewN | apply below_drew1 | refine below_set ?_ GE133.out | refine below_set ?_ GE134.out) | exact HB.out)) hb); have n3_ := Aside0.mk (hbox); have n4_ := Aside0.mk ((by rw [hg]; exact (below_size (by repeat (first | (with_reducible first | exact HB.out | apply below_alloc | apply pw_below_drewN | apply below_drew1 | refine below_set ?_ GE133.out | refine below_set ?_ GE134.out) | exact HB.out))) : w.heap.size ≤ gb135)); have n5_ := Aside0.mk ((by rw [hg]; exact (below_size (by repeat (first | (with_reducible first | exact HB.out | apply below_alloc | apply pw_below_drewN | apply below_drew1 | refine below_set ?_ GE133.out | refine below_set ?_ GE134.out) | exact HB.out))) : w.heap.size ≤ gb135)); have n6_ := Aside0.mk ((by rw [hg]; exact Nat.ne_of_lt (blk_lt (g := gb133) (o := .cells #[.int .i64 a0_0, .int .i64 a0_1] 23 (0, 0)) (by (with_reducible repeat (first | refine blk_drewN ?_ _ | refine blk_drew ?_ | refine blk_alloc ?_ _)); exact BK133.out)) : gb133 ≠ gb135)); have n7_ := Aside0.mk ((by rw [hg]; exact Nat.ne_of_gt (blk_lt (g := gb133) (o := .cells #[.int .i64 a0_0, .int .i64 a0_1] 23 (0, 0)) (by (with_reducible repeat (first | refine blk_drewN ?_ _ | refine blk_drew ?_ | refine blk_alloc ?_ _)); exact BK133.out)) : gb135 ≠ gb133)); have n8_ := Aside0.mk ((by rw [hg]; exact Nat.ne_of_lt (blk_lt (g := gb134) (o := .cells #[.int .i64 a1_0, .int .i64 a1_1, .bool a1_2] 25 (0, 0)) (by (with_reducible repeat (first | refine blk_drewN ?_ _ | refine blk_drew ?_ | refine blk_alloc ?_ _)); exact BK134.out)) : gb134 ≠ gb135)); have n9_ := Aside0.mk ((by rw [hg]; exact Nat.ne_of_gt (blk_lt (g := gb134) (o := .cells #[.int .i64 a1_0, .int .i64 a1_1, .bool a1_2] 25 (0, 0)) (by (with_reducible repeat (first | refine blk_drewN ?_ _ | refine blk_drew ?_ | refine blk_alloc ?_ _)); exact BK134.out)) : gb135 ≠ gb134)); clear BK133; clear BK134; clear HB; have BK133 := n0_; have BK134 := n1_; have HB := n2_; have BK135 := n3_; have GW135 := n4_; have GE135 := n5_; have NB133_135 := n6_; have NB135_133 := n7_; have NB134_135 := n8_; have NB135_134 := n9_; clear n0_ n1_ n2_ n3_ n4_ n5_ n6_ n7_ n8_ n9_; clear hb hbox hg))
  (try simp only [Act.put, List.setIfInBounds_toArray, List.set_cons_zero, List.set_cons_succ])
  go_cut [54] (fun v54 wc => ∃ (kq : Nat) (x54_2 : Bool), v54 = .bool x54_2 ∧ Aside0 (lombardref14_Next.j0 kq x54_2 a0_0 a0_1 a1_0 a1_1 a1_2 = some (r1, r2, r3)) ∧ Aside0 (kq ≤ k) ∧ Aside0 (wc.heap[gb133]? = some (.cells #[.int .i64 a0_0, .int .i64 a0_1] 23 (0, 0))) ∧ Aside0 (wc.heap[gb134]? = some (.cells #[.int .i64 a1_0, .int .i64 a1_1, .bool a1_2] 25 (0, 0))) ∧ Aside0 (wc.heap[gb135]? = some (.cells #[.int .i64 0, .int .i64 0] 23 (0, 0))) ∧ Aside0 (Below w.heap.size w wc))
  case first =>
    have H := HC3.out
    clear HC3
    by_cases c7 : a1_0 < 0
    · rw [if_pos c7] at H
      have c7b0 : decide (a1_0 < 0) = true := decide_eq_true c7
      clear c7
      (first | rw [c7b0] | (simp only [i64_w, i32_w]; rw [c7b0]) | skip)
      have H' := Aside0.mk H
      clear H
      have hnb8 := NB134_133.out
      have hnc8 := NB133_134.out
      have hnb9 := NB134_135.out
      have hnc9 := NB135_134.out
      have hcz10_0 : w6.cell? ⟨gb134, 0, none⟩ = some (.int .i64 a1_0) := (blk_cell BK134.out 0).trans rfl
      have hcz10_1 : w6.cell? ⟨gb134, 1, none⟩ = some (.int .i64 a1_1) := (blk_cell BK134.out 1).trans rfl
      have hcz10_2 : w6.cell? ⟨gb134, 2, none⟩ = some (.bool a1_2) := (blk_cell BK134.out 2).trans rfl
      have hfz10_0 := blk_frozen BK134.out 0
      have hfz10_1 := blk_frozen BK134.out 1
      have hfz10_2 := blk_frozen BK134.out 2
      go_wp2
      go_meet
      case rel => exact ⟨_, (true), (by first | rfl | (simp; done) | (simp [*]; done)), H', ⟨by first | omega | exact Nat.le_refl _⟩, ⟨by (with_reducible repeat (first | refine blk_drewN ?_ _ | refine blk_drew ?_ | refine blk_alloc ?_ _)); exact BK133.out⟩, ⟨by (with_reducible repeat (first | refine blk_drewN ?_ _ | refine blk_drew ?_ | refine blk_alloc ?_ _)); exact BK134.out⟩, ⟨by (with_reducible repeat (first | refine blk_drewN ?_ _ | refine blk_drew ?_ | refine blk_alloc ?_ _)); exact BK135.out⟩, ⟨by repeat (first | (with_reducible first | exact HB.out | apply below_alloc | apply pw_below_drewN | apply below_drew1 | refine below_set ?_ GE133.out | refine below_set ?_ GE134.out | refine below_set ?_ GE135.out) | exact HB.out)⟩⟩
    · rw [if_neg c7] at H
      have c7b0 : decide (a1_0 < 0) = false := decide_eq_false c7
      clear c7
      (first | rw [c7b0] | (simp only [i64_w, i32_w]; rw [c7b0]) | skip)
      by_cases c11 : a1_0 > 10000
      · rw [if_pos c11] at H
        have c11b0 : decide (10000 < a1_0) = true := decide_eq_true c11
        clear c11
        have H' := Aside0.mk H
        clear H
        have hnb12 := NB134_133.out
        have hnc12 := NB133_134.out
        have hnb13 := NB134_135.out
        have hnc13 := NB135_134.out
        have hcz14_0 : w6.cell? ⟨gb134, 0, none⟩ = some (.int .i64 a1_0) := (blk_cell BK134.out 0).trans rfl
        have hcz14_1 : w6.cell? ⟨gb134, 1, none⟩ = some (.int .i64 a1_1) := (blk_cell BK134.out 1).trans rfl
        have hcz14_2 : w6.cell? ⟨gb134, 2, none⟩ = some (.bool a1_2) := (blk_cell BK134.out 2).trans rfl
        have hfz14_0 := blk_frozen BK134.out 0
        have hfz14_1 := blk_frozen BK134.out 1
        have hfz14_2 := blk_frozen BK134.out 2
        go_wp2
        go_meet
        case rel => exact ⟨_, (true), (by first | rfl | (simp; done) | (simp [*]; done)), H', ⟨by first | omega | exact Nat.le_refl _⟩, ⟨by (with_reducible repeat (first | refine blk_drewN ?_ _ | refine blk_drew ?_ | refine blk_alloc ?_ _)); exact BK133.out⟩, ⟨by (with_reducible repeat (first | refine blk_drewN ?_ _ | refine blk_drew ?_ | refine blk_alloc ?_ _)); exact BK134.out⟩, ⟨by (with_reducible repeat (first | refine blk_drewN ?_ _ | refine blk_drew ?_ | refine blk_alloc ?_ _)); exact BK135.out⟩, ⟨by repeat (first | (with_reducible first | exact HB.out | apply below_alloc | apply pw_below_drewN | apply below_drew1 | refine below_set ?_ GE133.out | refine below_set ?_ GE134.out | refine below_set ?_ GE135.out) | exact HB.out)⟩⟩
      · rw [if_neg c11] at H
        have c11b0 : decide (10000 < a1_0) = false := decide_eq_false c11
        clear c11
        by_cases c15 : a1_1 < (-100)
        · rw [if_pos c15] at H
          have c15b0 : decide (a1_1 < (-100)) = true := decide_eq_true c15
          clear c15
          have H' := Aside0.mk H
          clear H
          have hnb16 := NB134_133.out
          have hnc16 := NB133_134.out
          have hnb17 := NB134_135.out
          have hnc17 := NB135_134.out
          have hcz18_0 : w6.cell? ⟨gb134, 0, none⟩ = some (.int .i64 a1_0) := (blk_cell BK134.out 0).trans rfl
          have hcz18_1 : w6.cell? ⟨gb134, 1, none⟩ = some (.int .i64 a1_1) := (blk_cell BK134.out 1).trans rfl
          have hcz18_2 : w6.cell? ⟨gb134, 2, none⟩ = some (.bool a1_2) := (blk_cell BK134.out 2).trans rfl
          have hfz18_0 := blk_frozen BK134.out 0
          have hfz18_1 := blk_frozen BK134.out 1
          have hfz18_2 := blk_frozen BK134.out 2
          go_wp2
          go_meet
          case rel => exact ⟨_, (true), (by first | rfl | (simp; done) | (simp [*]; done)), H', ⟨by first | omega | exact Nat.le_refl _⟩, ⟨by (with_reducible repeat (first | refine blk_drewN ?_ _ | refine blk_drew ?_ | refine blk_alloc ?_ _)); exact BK133.out⟩, ⟨by (with_reducible repeat (first | refine blk_drewN ?_ _ | refine blk_drew ?_ | refine blk_alloc ?_ _)); exact BK134.out⟩, ⟨by (with_reducible repeat (first | refine blk_drewN ?_ _ | refine blk_drew ?_ | refine blk_alloc ?_ _)); exact BK135.out⟩, ⟨by repeat (first | (with_reducible first | exact HB.out | apply below_alloc | apply pw_below_drewN | apply below_drew1 | refine below_set ?_ GE133.out | refine below_set ?_ GE134.out | refine below_set ?_ GE135.out) | exact HB.out)⟩⟩
        · rw [if_neg c15] at H
          have c15b0 : decide (a1_1 < (-100)) = false := decide_eq_false c15
          clear c15
          by_cases c19 : a1_1 > 100
          · rw [if_pos c19] at H
            have c19b0 : decide (100 < a1_1) = true := decide_eq_true c19
            clear c19
            have H' := Aside0.mk H
            clear H
            have hnb20 := NB134_133.out
            have hnc20 := NB133_134.out
            have hnb21 := NB134_135.out
            have hnc21 := NB135_134.out
            have hcz22_0 : w6.cell? ⟨gb134, 0, none⟩ = some (.int .i64 a1_0) := (blk_cell BK134.out 0).trans rfl
            have hcz22_1 : w6.cell? ⟨gb134, 1, none⟩ = some (.int .i64 a1_1) := (blk_cell BK134.out 1).trans rfl
            have hcz22_2 : w6.cell? ⟨gb134, 2, none⟩ = some (.bool a1_2) := (blk_cell BK134.out 2).trans rfl
            have hfz22_0 := blk_frozen BK134.out 0
            have hfz22_1 := blk_frozen BK134.out 1
            have hfz22_2 := blk_frozen BK134.out 2
            go_wp2
            go_meet
            case rel => exact ⟨_, (true), (by first | rfl | (simp; done) | (simp [*]; done)), H', ⟨by first | omega | exact Nat.le_refl _⟩, ⟨by (with_reducible repeat (first | refine blk_drewN ?_ _ | refine blk_drew ?_ | refine blk_alloc ?_ _)); exact BK133.out⟩, ⟨by (with_reducible repeat (first | refine blk_drewN ?_ _ | refine blk_drew ?_ | refine blk_alloc ?_ _)); exact BK134.out⟩, ⟨by (with_reducible repeat (first | refine blk_drewN ?_ _ | refine blk_drew ?_ | refine blk_alloc ?_ _)); exact BK135.out⟩, ⟨by repeat (first | (with_reducible first | exact HB.out | apply below_alloc | apply pw_below_drewN | apply below_drew1 | refine below_set ?_ GE133.out | refine below_set ?_ GE134.out | refine below_set ?_ GE135.out) | exact HB.out)⟩⟩
          · rw [if_neg c19] at H
            have c19b0 : decide (100 < a1_1) = false := decide_eq_false c19
            clear c19
            by_cases c23 : a0_0 < 1
            · rw [if_pos c23] at H
              have c23b0 : decide (a0_0 < 1) = true := decide_eq_true c23
              clear c23
              have H' := Aside0.mk H
              clear H
              have hnb24 := NB134_133.out
              have hnc24 := NB133_134.out
              have hnb25 := NB134_135.out
              have hnc25 := NB135_134.out
              have hcz26_0 : w6.cell? ⟨gb134, 0, none⟩ = some (.int .i64 a1_0) := (blk_cell BK134.out 0).trans rfl
              have hcz26_1 : w6.cell? ⟨gb134, 1, none⟩ = some (.int .i64 a1_1) := (blk_cell BK134.out 1).trans rfl
              have hcz26_2 : w6.cell? ⟨gb134, 2, none⟩ = some (.bool a1_2) := (blk_cell BK134.out 2).trans rfl
              have hfz26_0 := blk_frozen BK134.out 0
              have hfz26_1 := blk_frozen BK134.out 1
              have hfz26_2 := blk_frozen BK134.out 2
              have hnb27 := NB133_135.out
              have hnc27 := NB135_133.out
              have hcz28_0 : w6.cell? ⟨gb133, 0, none⟩ = some (.int .i64 a0_0) := (blk_cell BK133.out 0).trans rfl
              have hcz28_1 : w6.cell? ⟨gb133, 1, none⟩ = some (.int .i64 a0_1) := (blk_cell BK133.out 1).trans rfl
              have hfz28_0 := blk_frozen BK133.out 0
              have hfz28_1 := blk_frozen BK133.out 1
              go_wp2
              go_meet
              case rel => exact ⟨_, (true), (by first | rfl | (simp; done) | (simp [*]; done)), H', ⟨by first | omega | exact Nat.le_refl _⟩, ⟨by (with_reducible repeat (first | refine blk_drewN ?_ _ | refine blk_drew ?_ | refine blk_alloc ?_ _)); exact BK133.out⟩, ⟨by (with_reducible repeat (first | refine blk_drewN ?_ _ | refine blk_drew ?_ | refine blk_alloc ?_ _)); exact BK134.out⟩, ⟨by (with_reducible repeat (first | refine blk_drewN ?_ _ | refine blk_drew ?_ | refine blk_alloc ?_ _)); exact BK135.out⟩, ⟨by repeat (first | (with_reducible first | exact HB.out | apply below_alloc | apply pw_below_drewN | apply below_drew1 | refine below_set ?_ GE133.out | refine below_set ?_ GE134.out | refine below_set ?_ GE135.out) | exact HB.out)⟩⟩
            · rw [if_neg c23] at H
              have c23b0 : decide (a0_0 < 1) = false := decide_eq_false c23
              clear c23
              by_cases c29 : a0_0 > 3
              · rw [if_pos c29] at H
                have c29b0 : decide (3 < a0_0) = true := decide_eq_true c29
                clear c29
                have H' := Aside0.mk H
                clear H
                have hnb30 := NB134_133.out
                have hnc30 := NB133_134.out
                have hnb31 := NB134_135.out
                have hnc31 := NB135_134.out
                have hcz32_0 : w6.cell? ⟨gb134, 0, none⟩ = some (.int .i64 a1_0) := (blk_cell BK134.out 0).trans rfl
                have hcz32_1 : w6.cell? ⟨gb134, 1, none⟩ = some (.int .i64 a1_1) := (blk_cell BK134.out 1).trans rfl
                have hcz32_2 : w6.cell? ⟨gb134, 2, none⟩ = some (.bool a1_2) := (blk_cell BK134.out 2).trans rfl
                have hfz32_0 := blk_frozen BK134.out 0
                have hfz32_1 := blk_frozen BK134.out 1
                have hfz32_2 := blk_frozen BK134.out 2
                have hnb33 := NB133_135.out
                have hnc33 := NB135_133.out
                have hcz34_0 : w6.cell? ⟨gb133, 0, none⟩ = some (.int .i64 a0_0) := (blk_cell BK133.out 0).trans rfl
                have hcz34_1 : w6.cell? ⟨gb133, 1, none⟩ = some (.int .i64 a0_1) := (blk_cell BK133.out 1).trans rfl
                have hfz34_0 := blk_frozen BK133.out 0
                have hfz34_1 := blk_frozen BK133.out 1
                go_wp2
                go_meet
                case rel => exact ⟨_, (true), (by first | rfl | (simp; done) | (simp [*]; done)), H', ⟨by first | omega | exact Nat.le_refl _⟩, ⟨by (with_reducible repeat (first | refine blk_drewN ?_ _ | refine blk_drew ?_ | refine blk_alloc ?_ _)); exact BK133.out⟩, ⟨by (with_reducible repeat (first | refine blk_drewN ?_ _ | refine blk_drew ?_ | refine blk_alloc ?_ _)); exact BK134.out⟩, ⟨by (with_reducible repeat (first | refine blk_drewN ?_ _ | refine blk_drew ?_ | refine blk_alloc ?_ _)); exact BK135.out⟩, ⟨by repeat (first | (with_reducible first | exact HB.out | apply below_alloc | apply pw_below_drewN | apply below_drew1 | refine below_set ?_ GE133.out | refine below_set ?_ GE134.out | refine below_set ?_ GE135.out) | exact HB.out)⟩⟩
              · rw [if_neg c29] at H
                have c29b0 : decide (3 < a0_0) = false := decide_eq_false c29
                clear c29
                by_cases c35 : a0_1 < 0
                · rw [if_pos c35] at H
                  have c35b0 : decide (a0_1 < 0) = true := decide_eq_true c35
                  clear c35
                  have H' := Aside0.mk H
                  clear H
                  have hnb36 := NB134_133.out
                  have hnc36 := NB133_134.out
                  have hnb37 := NB134_135.out
                  have hnc37 := NB135_134.out
                  have hcz38_0 : w6.cell? ⟨gb134, 0, none⟩ = some (.int .i64 a1_0) := (blk_cell BK134.out 0).trans rfl
                  have hcz38_1 : w6.cell? ⟨gb134, 1, none⟩ = some (.int .i64 a1_1) := (blk_cell BK134.out 1).trans rfl
                  have hcz38_2 : w6.cell? ⟨gb134, 2, none⟩ = some (.bool a1_2) := (blk_cell BK134.out 2).trans rfl
                  have hfz38_0 := blk_frozen BK134.out 0
                  have hfz38_1 := blk_frozen BK134.out 1
                  have hfz38_2 := blk_frozen BK134.out 2
                  have hnb39 := NB133_135.out
                  have hnc39 := NB135_133.out
                  have hcz40_0 : w6.cell? ⟨gb133, 0, none⟩ = some (.int .i64 a0_0) := (blk_cell BK133.out 0).trans rfl
                  have hcz40_1 : w6.cell? ⟨gb133, 1, none⟩ = some (.int .i64 a0_1) := (blk_cell BK133.out 1).trans rfl
                  have hfz40_0 := blk_frozen BK133.out 0
                  have hfz40_1 := blk_frozen BK133.out 1
                  go_wp2
                  go_meet
                  case rel => exact ⟨_, (true), (by first | rfl | (simp; done) | (simp [*]; done)), H', ⟨by first | omega | exact Nat.le_refl _⟩, ⟨by (with_reducible repeat (first | refine blk_drewN ?_ _ | refine blk_drew ?_ | refine blk_alloc ?_ _)); exact BK133.out⟩, ⟨by (with_reducible repeat (first | refine blk_drewN ?_ _ | refine blk_drew ?_ | refine blk_alloc ?_ _)); exact BK134.out⟩, ⟨by (with_reducible repeat (first | refine blk_drewN ?_ _ | refine blk_drew ?_ | refine blk_alloc ?_ _)); exact BK135.out⟩, ⟨by repeat (first | (with_reducible first | exact HB.out | apply below_alloc | apply pw_below_drewN | apply below_drew1 | refine below_set ?_ GE133.out | refine below_set ?_ GE134.out | refine below_set ?_ GE135.out) | exact HB.out)⟩⟩
                · rw [if_neg c35] at H
                  have c35b0 : decide (a0_1 < 0) = false := decide_eq_false c35
                  clear c35
                  by_cases c41 : a0_1 > 2
                  · rw [if_pos c41] at H
                    have c41b0 : decide (2 < a0_1) = true := decide_eq_true c41
                    clear c41
                    have H' := Aside0.mk H
                    clear H
                    have hnb42 := NB134_133.out
                    have hnc42 := NB133_134.out
                    have hnb43 := NB134_135.out
                    have hnc43 := NB135_134.out
                    have hcz44_0 : w6.cell? ⟨gb134, 0, none⟩ = some (.int .i64 a1_0) := (blk_cell BK134.out 0).trans rfl
                    have hcz44_1 : w6.cell? ⟨gb134, 1, none⟩ = some (.int .i64 a1_1) := (blk_cell BK134.out 1).trans rfl
                    have hcz44_2 : w6.cell? ⟨gb134, 2, none⟩ = some (.bool a1_2) := (blk_cell BK134.out 2).trans rfl
                    have hfz44_0 := blk_frozen BK134.out 0
                    have hfz44_1 := blk_frozen BK134.out 1
                    have hfz44_2 := blk_frozen BK134.out 2
                    have hnb45 := NB133_135.out
                    have hnc45 := NB135_133.out
                    have hcz46_0 : w6.cell? ⟨gb133, 0, none⟩ = some (.int .i64 a0_0) := (blk_cell BK133.out 0).trans rfl
                    have hcz46_1 : w6.cell? ⟨gb133, 1, none⟩ = some (.int .i64 a0_1) := (blk_cell BK133.out 1).trans rfl
                    have hfz46_0 := blk_frozen BK133.out 0
                    have hfz46_1 := blk_frozen BK133.out 1
                    go_wp2
                    go_meet
                    case rel => exact ⟨_, (true), (by first | rfl | (simp; done) | (simp [*]; done)), H', ⟨by first | omega | exact Nat.le_refl _⟩, ⟨by (with_reducible repeat (first | refine blk_drewN ?_ _ | refine blk_drew ?_ | refine blk_alloc ?_ _)); exact BK133.out⟩, ⟨by (with_reducible repeat (first | refine blk_drewN ?_ _ | refine blk_drew ?_ | refine blk_alloc ?_ _)); exact BK134.out⟩, ⟨by (with_reducible repeat (first | refine blk_drewN ?_ _ | refine blk_drew ?_ | refine blk_alloc ?_ _)); exact BK135.out⟩, ⟨by repeat (first | (with_reducible first | exact HB.out | apply below_alloc | apply pw_below_drewN | apply below_drew1 | refine below_set ?_ GE133.out | refine below_set ?_ GE134.out | refine below_set ?_ GE135.out) | exact HB.out)⟩⟩
                  · rw [if_neg c41] at H
                    have c41b0 : decide (2 < a0_1) = false := decide_eq_false c41
                    clear c41
                    by_cases c47 : a0_0 = 1
                    · rw [if_pos c47] at H
                      have c47b0 : (a0_0 == 1) = true := beq_iff_eq.mpr c47
                      have c47b1 : (a0_0 != 1) = false := bne_eq_false_iff_eq.mpr c47
                      clear c47
                      have H' := Aside0.mk H
                      clear H
                      have hnb48 := NB134_133.out
                      have hnc48 := NB133_134.out
                      have hnb49 := NB134_135.out
                      have hnc49 := NB135_134.out
                      have hcz50_0 : w6.cell? ⟨gb134, 0, none⟩ = some (.int .i64 a1_0) := (blk_cell BK134.out 0).trans rfl
                      have hcz50_1 : w6.cell? ⟨gb134, 1, none⟩ = some (.int .i64 a1_1) := (blk_cell BK134.out 1).trans rfl
                      have hcz50_2 : w6.cell? ⟨gb134, 2, none⟩ = some (.bool a1_2) := (blk_cell BK134.out 2).trans rfl
                      have hfz50_0 := blk_frozen BK134.out 0
                      have hfz50_1 := blk_frozen BK134.out 1
                      have hfz50_2 := blk_frozen BK134.out 2
                      have hnb51 := NB133_135.out
                      have hnc51 := NB135_133.out
                      have hcz52_0 : w6.cell? ⟨gb133, 0, none⟩ = some (.int .i64 a0_0) := (blk_cell BK133.out 0).trans rfl
                      have hcz52_1 : w6.cell? ⟨gb133, 1, none⟩ = some (.int .i64 a0_1) := (blk_cell BK133.out 1).trans rfl
                      have hfz52_0 := blk_frozen BK133.out 0
                      have hfz52_1 := blk_frozen BK133.out 1
                      go_wp2
                      go_meet
                      case rel => exact ⟨_, ((a0_1 != 0)), (by first | rfl | (simp; done) | (simp [*]; done)), H', ⟨by first | omega | exact Nat.le_refl _⟩, ⟨by (with_reducible repeat (first | refine blk_drewN ?_ _ | refine blk_drew ?_ | refine blk_alloc ?_ _)); exact BK133.out⟩, ⟨by (with_reducible repeat (first | refine blk_drewN ?_ _ | refine blk_drew ?_ | refine blk_alloc ?_ _)); exact BK134.out⟩, ⟨by (with_reducible repeat (first | refine blk_drewN ?_ _ | refine blk_drew ?_ | refine blk_alloc ?_ _)); exact BK135.out⟩, ⟨by repeat (first | (with_reducible first | exact HB.out | apply below_alloc | apply pw_below_drewN | apply below_drew1 | refine below_set ?_ GE133.out | refine below_set ?_ GE134.out | refine below_set ?_ GE135.out) | exact HB.out)⟩⟩
                    · rw [if_neg c47] at H
                      have c47b0 : (a0_0 == 1) = false := beq_eq_false_iff_ne.mpr c47
                      have c47b1 : (a0_0 != 1) = true := bne_iff_ne.mpr c47
                      have H' := Aside0.mk H
                      clear H
                      have hnb53 := NB134_133.out
                      have hnc53 := NB133_134.out
                      have hnb54 := NB134_135.out
                      have hnc54 := NB135_134.out
                      have hcz55_0 : w6.cell? ⟨gb134, 0, none⟩ = some (.int .i64 a1_0) := (blk_cell BK134.out 0).trans rfl
                      have hcz55_1 : w6.cell? ⟨gb134, 1, none⟩ = some (.int .i64 a1_1) := (blk_cell BK134.out 1).trans rfl
                      have hcz55_2 : w6.cell? ⟨gb134, 2, none⟩ = some (.bool a1_2) := (blk_cell BK134.out 2).trans rfl
                      have hfz55_0 := blk_frozen BK134.out 0
                      have hfz55_1 := blk_frozen BK134.out 1
                      have hfz55_2 := blk_frozen BK134.out 2
                      have hnb56 := NB133_135.out
                      have hnc56 := NB135_133.out
                      have hcz57_0 : w6.cell? ⟨gb133, 0, none⟩ = some (.int .i64 a0_0) := (blk_cell BK133.out 0).trans rfl
                      have hcz57_1 : w6.cell? ⟨gb133, 1, none⟩ = some (.int .i64 a0_1) := (blk_cell BK133.out 1).trans rfl
                      have hfz57_0 := blk_frozen BK133.out 0
                      have hfz57_1 := blk_frozen BK133.out 1
                      go_wp2
                      go_meet
                      case rel => exact ⟨_, (false), (by first | rfl | (simp; done) | (simp [*]; done)), H', ⟨by first | omega | exact Nat.le_refl _⟩, ⟨by (with_reducible repeat (first | refine blk_drewN ?_ _ | refine blk_drew ?_ | refine blk_alloc ?_ _)); exact BK133.out⟩, ⟨by (with_reducible repeat (first | refine blk_drewN ?_ _ | refine blk_drew ?_ | refine blk_alloc ?_ _)); exact BK134.out⟩, ⟨by (with_reducible repeat (first | refine blk_drewN ?_ _ | refine blk_drew ?_ | refine blk_alloc ?_ _)); exact BK135.out⟩, ⟨by repeat (first | (with_reducible first | exact HB.out | apply below_alloc | apply pw_below_drewN | apply below_drew1 | refine below_set ?_ GE133.out | refine below_set ?_ GE134.out | refine below_set ?_ GE135.out) | exact HB.out)⟩⟩
  case rest =>
    clear HC3
    try clear c1
    try clear c2
    try clear p2
    try clear c3
    try clear c4
    try clear c5
    try clear c7
    try clear c7b0
    try clear c8
    try clear c9
    try clear c10
    try clear c11
    try clear c11b0
    try clear c12
    try clear c13
    try clear c15
    try clear c15b0
    try clear c16
    try clear c17
    try clear c19
    try clear c19b0
    try clear c20
    try clear c21
    try clear c23
    try clear c23b0
    try clear c24
    try clear c25
    try clear c27
    try clear c29
    try clear c29b0
    try clear c30
    try clear c31
    try clear c33
    try clear c35
    try clear c35b0
    try clear c36
    try clear c37
    try clear c39
    try clear c41
    try clear c41b0
    try clear c42
    try clear c43
    try clear c45
    try clear c47
    try clear c47b0
    try clear c47b1
    try clear c48
    try clear c49
    try clear c51
    try clear c53
    try clear c54
    try clear c56
    try clear hcz10_0
    try clear hcz10_1
    try clear hcz10_2
    try clear hcz14_0
    try clear hcz14_1
    try clear hcz14_2
    try clear hcz18_0
    try clear hcz18_1
    try clear hcz18_2
    try clear hcz22_0
    try clear hcz22_1
    try clear hcz22_2
    try clear hcz26_0
    try clear hcz26_1
    try clear hcz26_2
    try clear hcz28_0
    try clear hcz28_1
    try clear hcz32_0
    try clear hcz32_1
    try clear hcz32_2
    try clear hcz34_0
    try clear hcz34_1
    try clear hcz38_0
    try clear hcz38_1
    try clear hcz38_2
    try clear hcz40_0
    try clear hcz40_1
    try clear hcz44_0
    try clear hcz44_1
    try clear hcz44_2
    try clear hcz46_0
    try clear hcz46_1
    try clear hcz50_0
    try clear hcz50_1
    try clear hcz50_2
    try clear hcz52_0
    try clear hcz52_1
    try clear hcz55_0
    try clear hcz55_1
    try clear hcz55_2
    try clear hcz57_0
    try clear hcz57_1
    try clear hfz10_0
    try clear hfz10_1
    try clear hfz10_2
    try clear hfz14_0
    try clear hfz14_1
    try clear hfz14_2
    try clear hfz18_0
    try clear hfz18_1
    try clear hfz18_2
    try clear hfz22_0
    try clear hfz22_1
    try clear hfz22_2
    try clear hfz26_0
    try clear hfz26_1
    try clear hfz26_2
    try clear hfz28_0
    try clear hfz28_1
    try clear hfz32_0
    try clear hfz32_1
    try clear hfz32_2
    try clear hfz34_0
    try clear hfz34_1
    try clear hfz38_0
    try clear hfz38_1
    try clear hfz38_2
    try clear hfz40_0
    try clear hfz40_1
    try clear hfz44_0
    try clear hfz44_1
    try clear hfz44_2
    try clear hfz46_0
    try clear hfz46_1
    try clear hfz50_0
    try clear hfz50_1
    try clear hfz50_2
    try clear hfz52_0
    try clear hfz52_1
    try clear hfz55_0
    try clear hfz55_1
    try clear hfz55_2
    try clear hfz57_0
    try clear hfz57_1
    obtain ⟨kq, x54_2, rfl, HA, HJ2, BK133, BK134, BK135, HB⟩ := hcut
    cases kq with
    | zero => exact absurd HA.out (by simp [lombardref14_Next.j0])
    | succ kj2 =>
      have H := HA.out
      clear HA
      simp only [lombardref14_Next.j0] at H
      by_cases c58 : x54_2 = true
      · subst c58
        have H1 : (some (0, 0, 2)) = some (r1, r2, r3) := by rw [if_pos rfl] at H; exact H
        clear H
        have H := H1
        clear H1
        simp only [Option.some.injEq, Prod.mk.injEq] at H
        obtain ⟨rfl, rfl, rfl⟩ := H
        have hnb59 := NB135_133.out
        have hnc59 := NB133_135.out
        have hnb60 := NB135_134.out
        have hnc60 := NB134_135.out
        have hcz61_0 : wc.cell? ⟨gb135, 0, none⟩ = some (.int .i64 0) := (blk_cell BK135.out 0).trans rfl
        have hcz61_1 : wc.cell? ⟨gb135, 1, none⟩ = some (.int .i64 0) := (blk_cell BK135.out 1).trans rfl
        have hfz61_0 := blk_frozen BK135.out 0
        have hfz61_1 := blk_frozen BK135.out 1
        go_wp2
        refine bodyPost_ret (results_ct rfl _ _ gb135 23 #[.int .i64 0, .int .i64 0] (0, 0) _ rfl (by (with_reducible repeat (first | refine blk_drewN ?_ _ | refine blk_drew ?_ | refine blk_alloc ?_ _)); refine blk_put (cs := #[.int .i64 0, .int .i64 0]) ?_ 1 _ rfl; (with_reducible repeat (first | refine blk_drewN ?_ _ | refine blk_drew ?_ | refine blk_alloc ?_ _)); refine blk_put (cs := #[.int .i64 0, .int .i64 0]) ?_ 0 _ rfl; (with_reducible repeat (first | refine blk_drewN ?_ _ | refine blk_drew ?_ | refine blk_alloc ?_ _)); exact BK135.out) Try.underlying23 rfl (by kernel_rfl)) rfl ?_
        exact ⟨by first | rfl | (simp [errW_none, errW_some] <;> rfl) | (simp [*, errW_none, errW_some] <;> rfl), by repeat (first | (with_reducible first | exact HB.out | apply below_alloc | apply pw_below_drewN | apply below_drew1 | refine below_set ?_ GE133.out | refine below_set ?_ GE134.out | refine below_set ?_ GE135.out) | exact HB.out)⟩
      · replace c58 := Bool.eq_false_iff.mpr c58
        subst c58
        have H1 : ((lombardref14_Worst.f kj2 a1_0 a1_1 a1_2).bind fun t136 => (if t136 ≥ a0_0 then (some (t136, 0, 0)) else (if a0_1 = 2 then (some (wrap64 (a0_0 - 1), 0, 0)) else (some (a0_0, wrap64 (a0_1 + 1), 0))))) = some (r1, r2, r3) := by rw [if_neg (show ¬ (false = true) by decide)] at H; exact H
        clear H
        have H := H1
        clear H1
        replace H := Option.bind_eq_some_iff.mp H
        obtain ⟨t136, A620, H⟩ := H
        replace H : (if t136 ≥ a0_0 then (some (t136, 0, 0)) else (if a0_1 = 2 then (some (wrap64 (a0_0 - 1), 0, 0)) else (some (a0_0, wrap64 (a0_1 + 1), 0)))) = some (r1, r2, r3) := H
        have A62 := Aside0.mk A620
        clear A620
        by_cases c63 : t136 ≥ a0_0
        · rw [if_pos c63] at H
          have c63b0 : decide (a0_0 ≤ t136) = true := decide_eq_true c63
          clear c63
          simp only [Option.some.injEq, Prod.mk.injEq] at H
          obtain ⟨rfl, rfl, rfl⟩ := H
          have hnb64 := NB134_133.out
          have hnc64 := NB133_134.out
          have hnb65 := NB134_135.out
          have hnc65 := NB135_134.out
          have hcz66_0 : wc.cell? ⟨gb134, 0, none⟩ = some (.int .i64 a1_0) := (blk_cell BK134.out 0).trans rfl
          have hcz66_1 : wc.cell? ⟨gb134, 1, none⟩ = some (.int .i64 a1_1) := (blk_cell BK134.out 1).trans rfl
          have hcz66_2 : wc.cell? ⟨gb134, 2, none⟩ = some (.bool a1_2) := (blk_cell BK134.out 2).trans rfl
          have hfz66_0 := blk_frozen BK134.out 0
          have hfz66_1 := blk_frozen BK134.out 1
          have hfz66_2 := blk_frozen BK134.out 2
          go_wp2_with (first | ((with_reducible refine gate_callee (f := 12) rfl ?_); refine goesL_ (some 57) rfl rfl Try.func12 (by kernel_rfl) rfl #[.agg #[.int .i64 a1_0, .int .i64 a1_1, .bool a1_2]] rfl (by (try simp only [List.map_toArray, List.map_cons, List.map_nil]); first | done | rfl | (simp only [List.length_drop, List.length_take]; rfl)) ?_; (with_reducible refine (lombardref14_Worst.calls kj2 a1_0 a1_1 a1_2 t136 _ A62.out).mono ?_); rintro e w67 ⟨rfl, hb⟩; refine ⟨_, rfl, ?_⟩; have n0_ := Aside0.mk (blk_below (g := gb133) (o := .cells #[.int .i64 a0_0, .int .i64 a0_1] 23 (0, 0)) (by (with_reducible repeat (first | refine blk_drewN ?_ _ | refine blk_drew ?_ | refine blk_alloc ?_ _)); exact BK133.out) hb); have n1_ := Aside0.mk (blk_below (g := gb134) (o := .cells #[.int .i64 a1_0, .int .i64 a1_1, .bool a1_2] 25 (0, 0)) (by (with_reducible repeat (first | refine blk_drewN ?_ _ | refine blk_drew ?_ | refine blk_alloc ?_ _)); exact BK134.out) hb); have n2_ := Aside0.mk (blk_below (g := gb135) (o := .cells #[.int .i64 0, .int .i64 0] 23 (0, 0)) (by (with_reducible repeat (first | refine blk_drewN ?_ _ | refine blk_drew ?_ | refine blk_alloc ?_ _)); exact BK135.out) hb); have n3_ := Aside0.mk (below_step (by repeat (first | (with_reducible first | exact HB.out | apply below_alloc | apply pw_below_drewN | apply below_drew1 | refine below_set ?_ GE133.out | refine below_set ?_ GE134.out | refine below_set ?_ GE135.out) | exact HB.out)) hb); clear BK133; clear BK134; clear BK135; clear HB; have BK133 := n0_; have BK134 := n1_; have BK135 := n2_; have HB := n3_; clear n0_ n1_ n2_ n3_; (try clear hb); (try clear hb2); (try clear hk); (try clear hi); have hnb68 := NB133_135.out; have hnc68 := NB135_133.out; have hcz69_0 : w67.cell? ⟨gb133, 0, none⟩ = some (.int .i64 a0_0) := (blk_cell BK133.out 0).trans rfl; have hcz69_1 : w67.cell? ⟨gb133, 1, none⟩ = some (.int .i64 a0_1) := (blk_cell BK133.out 1).trans rfl; have hfz69_0 := blk_frozen BK133.out 0; have hfz69_1 := blk_frozen BK133.out 1; have hcz70_0 : w67.cell? ⟨gb135, 0, none⟩ = some (.int .i64 0) := (blk_cell BK135.out 0).trans rfl; have hcz70_1 : w67.cell? ⟨gb135, 1, none⟩ = some (.int .i64 0) := (blk_cell BK135.out 1).trans rfl; have hfz70_0 := blk_frozen BK135.out 0; have hfz70_1 := blk_frozen BK135.out 1))
          refine bodyPost_ret (results_ct rfl _ _ gb135 23 #[.int .i64 t136, .int .i64 0] (0, 0) _ rfl (by (with_reducible repeat (first | refine blk_drewN ?_ _ | refine blk_drew ?_ | refine blk_alloc ?_ _)); refine blk_put (cs := #[.int .i64 t136, .int .i64 0]) ?_ 1 _ rfl; (with_reducible repeat (first | refine blk_drewN ?_ _ | refine blk_drew ?_ | refine blk_alloc ?_ _)); refine blk_put (cs := #[.int .i64 0, .int .i64 0]) ?_ 0 _ rfl; (with_reducible repeat (first | refine blk_drewN ?_ _ | refine blk_drew ?_ | refine blk_alloc ?_ _)); exact BK135.out) Try.underlying23 rfl (by kernel_rfl)) rfl ?_
          exact ⟨by first | rfl | (simp [errW_none, errW_some] <;> rfl) | (simp [*, errW_none, errW_some] <;> rfl), by repeat (first | (with_reducible first | exact HB.out | apply below_alloc | apply pw_below_drewN | apply below_drew1 | refine below_set ?_ GE133.out | refine below_set ?_ GE134.out | refine below_set ?_ GE135.out) | exact HB.out)⟩
        · rw [if_neg c63] at H
          have c63b0 : decide (a0_0 ≤ t136) = false := decide_eq_false c63
          clear c63
          by_cases c71 : a0_1 = 2
          · rw [if_pos c71] at H
            have c71b0 : (a0_1 == 2) = true := beq_iff_eq.mpr c71
            have c71b1 : (a0_1 != 2) = false := bne_eq_false_iff_eq.mpr c71
            clear c71
            simp only [Option.some.injEq, Prod.mk.injEq] at H
            obtain ⟨rfl, rfl, rfl⟩ := H
            have hnb72 := NB134_133.out
            have hnc72 := NB133_134.out
            have hnb73 := NB134_135.out
            have hnc73 := NB135_134.out
            have hcz74_0 : wc.cell? ⟨gb134, 0, none⟩ = some (.int .i64 a1_0) := (blk_cell BK134.out 0).trans rfl
            have hcz74_1 : wc.cell? ⟨gb134, 1, none⟩ = some (.int .i64 a1_1) := (blk_cell BK134.out 1).trans rfl
            have hcz74_2 : wc.cell? ⟨gb134, 2, none⟩ = some (.bool a1_2) := (blk_cell BK134.out 2).trans rfl
            have hfz74_0 := blk_frozen BK134.out 0
            have hfz74_1 := blk_frozen BK134.out 1
            have hfz74_2 := blk_frozen BK134.out 2
            go_wp2_with (first | ((with_reducible refine gate_callee (f := 12) rfl ?_); refine goesL_ (some 57) rfl rfl Try.func12 (by kernel_rfl) rfl #[.agg #[.int .i64 a1_0, .int .i64 a1_1, .bool a1_2]] rfl (by (try simp only [List.map_toArray, List.map_cons, List.map_nil]); first | done | rfl | (simp only [List.length_drop, List.length_take]; rfl)) ?_; (with_reducible refine (lombardref14_Worst.calls kj2 a1_0 a1_1 a1_2 t136 _ A62.out).mono ?_); rintro e w75 ⟨rfl, hb⟩; refine ⟨_, rfl, ?_⟩; have n0_ := Aside0.mk (blk_below (g := gb133) (o := .cells #[.int .i64 a0_0, .int .i64 a0_1] 23 (0, 0)) (by (with_reducible repeat (first | refine blk_drewN ?_ _ | refine blk_drew ?_ | refine blk_alloc ?_ _)); exact BK133.out) hb); have n1_ := Aside0.mk (blk_below (g := gb134) (o := .cells #[.int .i64 a1_0, .int .i64 a1_1, .bool a1_2] 25 (0, 0)) (by (with_reducible repeat (first | refine blk_drewN ?_ _ | refine blk_drew ?_ | refine blk_alloc ?_ _)); exact BK134.out) hb); have n2_ := Aside0.mk (blk_below (g := gb135) (o := .cells #[.int .i64 0, .int .i64 0] 23 (0, 0)) (by (with_reducible repeat (first | refine blk_drewN ?_ _ | refine blk_drew ?_ | refine blk_alloc ?_ _)); exact BK135.out) hb); have n3_ := Aside0.mk (below_step (by repeat (first | (with_reducible first | exact HB.out | apply below_alloc | apply pw_below_drewN | apply below_drew1 | refine below_set ?_ GE133.out | refine below_set ?_ GE134.out | refine below_set ?_ GE135.out) | exact HB.out)) hb); clear BK133; clear BK134; clear BK135; clear HB; have BK133 := n0_; have BK134 := n1_; have BK135 := n2_; have HB := n3_; clear n0_ n1_ n2_ n3_; (try clear hb); (try clear hb2); (try clear hk); (try clear hi); have hnb76 := NB133_135.out; have hnc76 := NB135_133.out; have hcz77_0 : w75.cell? ⟨gb133, 0, none⟩ = some (.int .i64 a0_0) := (blk_cell BK133.out 0).trans rfl; have hcz77_1 : w75.cell? ⟨gb133, 1, none⟩ = some (.int .i64 a0_1) := (blk_cell BK133.out 1).trans rfl; have hfz77_0 := blk_frozen BK133.out 0; have hfz77_1 := blk_frozen BK133.out 1; have hcz78_0 : w75.cell? ⟨gb135, 0, none⟩ = some (.int .i64 0) := (blk_cell BK135.out 0).trans rfl; have hcz78_1 : w75.cell? ⟨gb135, 1, none⟩ = some (.int .i64 0) := (blk_cell BK135.out 1).trans rfl; have hfz78_0 := blk_frozen BK135.out 0; have hfz78_1 := blk_frozen BK135.out 1))
            refine bodyPost_ret (results_ct rfl _ _ gb135 23 #[.int .i64 (wrap64 (a0_0 - 1)), .int .i64 0] (0, 0) _ rfl (by (with_reducible repeat (first | refine blk_drewN ?_ _ | refine blk_drew ?_ | refine blk_alloc ?_ _)); refine blk_put (cs := #[.int .i64 (wrap64 (a0_0 - 1)), .int .i64 0]) ?_ 1 _ rfl; (with_reducible repeat (first | refine blk_drewN ?_ _ | refine blk_drew ?_ | refine blk_alloc ?_ _)); refine blk_put (cs := #[.int .i64 0, .int .i64 0]) ?_ 0 _ rfl; (with_reducible repeat (first | refine blk_drewN ?_ _ | refine blk_drew ?_ | refine blk_alloc ?_ _)); exact BK135.out) Try.underlying23 rfl (by kernel_rfl)) rfl ?_
            exact ⟨by first | rfl | (simp [errW_none, errW_some] <;> rfl) | (simp [*, errW_none, errW_some] <;> rfl), by repeat (first | (with_reducible first | exact HB.out | apply below_alloc | apply pw_below_drewN | apply below_drew1 | refine below_set ?_ GE133.out | refine below_set ?_ GE134.out | refine below_set ?_ GE135.out) | exact HB.out)⟩
          · rw [if_neg c71] at H
            have c71b0 : (a0_1 == 2) = false := beq_eq_false_iff_ne.mpr c71
            have c71b1 : (a0_1 != 2) = true := bne_iff_ne.mpr c71
            simp only [Option.some.injEq, Prod.mk.injEq] at H
            obtain ⟨rfl, rfl, rfl⟩ := H
            have hnb79 := NB134_133.out
            have hnc79 := NB133_134.out
            have hnb80 := NB134_135.out
            have hnc80 := NB135_134.out
            have hcz81_0 : wc.cell? ⟨gb134, 0, none⟩ = some (.int .i64 a1_0) := (blk_cell BK134.out 0).trans rfl
            have hcz81_1 : wc.cell? ⟨gb134, 1, none⟩ = some (.int .i64 a1_1) := (blk_cell BK134.out 1).trans rfl
            have hcz81_2 : wc.cell? ⟨gb134, 2, none⟩ = some (.bool a1_2) := (blk_cell BK134.out 2).trans rfl
            have hfz81_0 := blk_frozen BK134.out 0
            have hfz81_1 := blk_frozen BK134.out 1
            have hfz81_2 := blk_frozen BK134.out 2
            go_wp2_with (first | ((with_reducible refine gate_callee (f := 12) rfl ?_); refine goesL_ (some 57) rfl rfl Try.func12 (by kernel_rfl) rfl #[.agg #[.int .i64 a1_0, .int .i64 a1_1, .bool a1_2]] rfl (by (try simp only [List.map_toArray, List.map_cons, List.map_nil]); first | done | rfl | (simp only [List.length_drop, List.length_take]; rfl)) ?_; (with_reducible refine (lombardref14_Worst.calls kj2 a1_0 a1_1 a1_2 t136 _ A62.out).mono ?_); rintro e w82 ⟨rfl, hb⟩; refine ⟨_, rfl, ?_⟩; have n0_ := Aside0.mk (blk_below (g := gb133) (o := .cells #[.int .i64 a0_0, .int .i64 a0_1] 23 (0, 0)) (by (with_reducible repeat (first | refine blk_drewN ?_ _ | refine blk_drew ?_ | refine blk_alloc ?_ _)); exact BK133.out) hb); have n1_ := Aside0.mk (blk_below (g := gb134) (o := .cells #[.int .i64 a1_0, .int .i64 a1_1, .bool a1_2] 25 (0, 0)) (by (with_reducible repeat (first | refine blk_drewN ?_ _ | refine blk_drew ?_ | refine blk_alloc ?_ _)); exact BK134.out) hb); have n2_ := Aside0.mk (blk_below (g := gb135) (o := .cells #[.int .i64 0, .int .i64 0] 23 (0, 0)) (by (with_reducible repeat (first | refine blk_drewN ?_ _ | refine blk_drew ?_ | refine blk_alloc ?_ _)); exact BK135.out) hb); have n3_ := Aside0.mk (below_step (by repeat (first | (with_reducible first | exact HB.out | apply below_alloc | apply pw_below_drewN | apply below_drew1 | refine below_set ?_ GE133.out | refine below_set ?_ GE134.out | refine below_set ?_ GE135.out) | exact HB.out)) hb); clear BK133; clear BK134; clear BK135; clear HB; have BK133 := n0_; have BK134 := n1_; have BK135 := n2_; have HB := n3_; clear n0_ n1_ n2_ n3_; (try clear hb); (try clear hb2); (try clear hk); (try clear hi); have hnb83 := NB133_135.out; have hnc83 := NB135_133.out; have hcz84_0 : w82.cell? ⟨gb133, 0, none⟩ = some (.int .i64 a0_0) := (blk_cell BK133.out 0).trans rfl; have hcz84_1 : w82.cell? ⟨gb133, 1, none⟩ = some (.int .i64 a0_1) := (blk_cell BK133.out 1).trans rfl; have hfz84_0 := blk_frozen BK133.out 0; have hfz84_1 := blk_frozen BK133.out 1; have hcz85_0 : w82.cell? ⟨gb135, 0, none⟩ = some (.int .i64 0) := (blk_cell BK135.out 0).trans rfl; have hcz85_1 : w82.cell? ⟨gb135, 1, none⟩ = some (.int .i64 0) := (blk_cell BK135.out 1).trans rfl; have hfz85_0 := blk_frozen BK135.out 0; have hfz85_1 := blk_frozen BK135.out 1))
            refine bodyPost_ret (results_ct rfl _ _ gb135 23 #[.int .i64 a0_0, .int .i64 (wrap64 (a0_1 + 1))] (0, 0) _ rfl (by (with_reducible repeat (first | refine blk_drewN ?_ _ | refine blk_drew ?_ | refine blk_alloc ?_ _)); refine blk_put (cs := #[.int .i64 a0_0, .int .i64 0]) ?_ 1 _ rfl; (with_reducible repeat (first | refine blk_drewN ?_ _ | refine blk_drew ?_ | refine blk_alloc ?_ _)); refine blk_put (cs := #[.int .i64 0, .int .i64 0]) ?_ 0 _ rfl; (with_reducible repeat (first | refine blk_drewN ?_ _ | refine blk_drew ?_ | refine blk_alloc ?_ _)); exact BK135.out) Try.underlying23 rfl (by kernel_rfl)) rfl ?_
            exact ⟨by first | rfl | (simp [errW_none, errW_some] <;> rfl) | (simp [*, errW_none, errW_some] <;> rfl), by repeat (first | (with_reducible first | exact HB.out | apply below_alloc | apply pw_below_drewN | apply below_drew1 | refine below_set ?_ GE133.out | refine below_set ?_ GE134.out | refine below_set ?_ GE135.out) | exact HB.out)⟩

end Go.Proofs.Ytjnhlglamiegbaa.Print
