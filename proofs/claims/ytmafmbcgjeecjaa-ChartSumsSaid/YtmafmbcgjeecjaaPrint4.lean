-- written by this session's program wip/hybrid.py over the kit's printer, and by hand. Not trusted: Lean checks it.
import Derived.Test.YtmafmbcgjeecjaaPrint0
import Derived.Test.YtmafmbcgjeecjaaPrint2
import Derived.Test.YtmafmbcgjeecjaaPrint3
namespace Go.Proofs.Ytmafmbcgjeecjaa.Print
open Go.RowKit Go.Proofs.YtmafmbcgjeecjaaW.PrintWords Go.Proofs.YtmafmbcgjeecjaaW.PrintLast Go.Proofs.YtmafmbcgjeecjaaW.PrintMore
attribute [local go_sem] max2_int min2_int max_two min_two max_three min_three max_four min_four   -- for this text's walks alone
set_option linter.unusedVariables false
set_option linter.unusedSimpArgs false

/-! ### chart_Post: function 9 -/
def chart_Post.bad (a0 a1 : Int) : Bool := decide (a0 < 1 ∨ 7 < a0 ∨ a1 < -1125899906842624 ∨ 1125899906842624 < a1 ∨ (a1 < 0 ∧ a0 ≠ 2 ∧ a0 ≠ 4 ∧ a0 ≠ 5))
def chart_Post.on (a0 : Int) : Int := if a0 = 1 then 2 else if a0 = 2 then 2 else if a0 = 3 then 1 else if a0 = 4 then 2 else if a0 = 5 then 6 else if a0 = 6 then 3 else 1
def chart_Post.ag (a0 : Int) : Int := if a0 = 1 then 1 else if a0 = 2 then 4 else if a0 = 3 then 2 else if a0 = 4 then 5 else if a0 = 5 then 3 else if a0 = 6 then 2 else 7
def chart_Post.f (a0 : Int) (a1 : Int) : Option ((List (S45)) × Int) := some (if chart_Post.bad a0 a1 = true then ([], 2) else if a1 = 0 then ([], 0) else ([⟨chart_Post.on a0, a1⟩, ⟨chart_Post.ag a0, -a1⟩], 0))
def chart_Post.P (w : World) (r : List S45 × Int) (e : Ending) (w' : World) : Prop := ∃ v0_ : Value, e = .returned (.tuple #[v0_, .int .i64 r.2]) ∧ Kd.R k45 45 w' w.heap.size (fun _ => True) v0_ r.1 ∧ Below w.heap.size w w'

set_option maxHeartbeats 1000000 in
set_option maxRecDepth 100000 in
theorem chart_Post.b12 (a0 a1 : Int) (w : World) (hl : lk chart_entries.m a0 = none) : Calls Try.prog 9 #[.int .i64 a0, .int .i64 a1] w (chart_Post.P w ([], 2)) := by
  have HL := Aside0.mk hl
  clear hl
  have hz : ∀ W, (zeroValue 50).run Try.prog W = .ok (.agg #[.int .i64 0, .int .i64 0, .bool false]) W := fun W => by kernel_rfl
  go_enter Try.func9, Try.ntmps9
  go_wp2_with (first | (go_at_call 22; refine (chart_entries.calls _).mono ?_; rintro e w1 ⟨g, hg, rfl, hm, hB1⟩; have HM := Aside0.mk hm; have HB1 := Aside0.mk hB1; clear hm hB1 hg) | (with_reducible refine wpList_lookup_none rfl 52 _ _ _ rfl Try.underlying52 Try.underlying3 _ rfl rfl HM.out HL.out (hz _) ?_))
  go_ret2
  exact ⟨.slice none 0 0, rfl, Kd.R_nil _ _ _ _ _, by repeat (first | exact HB1.out | exact Below.refl _ _ | apply below_alloc | apply pw_below_drewN | apply below_drew1 | refine below_set ?_ (by have := HB1.out.size; first | omega | (simp; omega)))⟩

set_option maxHeartbeats 1000000 in
set_option maxRecDepth 100000 in
theorem chart_Post.b3 (a0 a1 on ag : Int) (bo : Bool) (w : World) (hl : lk chart_entries.m a0 = some (.agg #[.int .i64 on, .int .i64 ag, .bool bo])) (h3 : a1 < -1125899906842624) : Calls Try.prog 9 #[.int .i64 a0, .int .i64 a1] w (chart_Post.P w ([], 2)) := by
  have HL := Aside0.mk hl
  clear hl
  have hz : ∀ W, (zeroValue 50).run Try.prog W = .ok (.agg #[.int .i64 0, .int .i64 0, .bool false]) W := fun W => by kernel_rfl
  go_enter Try.func9, Try.ntmps9
  go_wp2_with (first | (go_at_call 22; refine (chart_entries.calls _).mono ?_; rintro e w1 ⟨g, hg, rfl, hm, hB1⟩; have HM := Aside0.mk hm; have HB1 := Aside0.mk hB1; clear hm hB1 hg) | (with_reducible refine wpList_lookup_some rfl 52 _ _ _ rfl Try.underlying52 Try.underlying3 _ rfl rfl HM.out HL.out ?_))
  go_ret2
  exact ⟨.slice none 0 0, rfl, Kd.R_nil _ _ _ _ _, by repeat (first | exact HB1.out | exact Below.refl _ _ | apply below_alloc | apply pw_below_drewN | apply below_drew1 | refine below_set ?_ (by have := HB1.out.size; first | omega | (simp; omega)))⟩

set_option maxHeartbeats 1000000 in
set_option maxRecDepth 100000 in
theorem chart_Post.b4 (a0 a1 on ag : Int) (bo : Bool) (w : World) (hl : lk chart_entries.m a0 = some (.agg #[.int .i64 on, .int .i64 ag, .bool bo])) (h4 : 1125899906842624 < a1) (h3 : ¬ a1 < -1125899906842624) : Calls Try.prog 9 #[.int .i64 a0, .int .i64 a1] w (chart_Post.P w ([], 2)) := by
  have HL := Aside0.mk hl
  clear hl
  have hz : ∀ W, (zeroValue 50).run Try.prog W = .ok (.agg #[.int .i64 0, .int .i64 0, .bool false]) W := fun W => by kernel_rfl
  go_enter Try.func9, Try.ntmps9
  go_wp2_with (first | (go_at_call 22; refine (chart_entries.calls _).mono ?_; rintro e w1 ⟨g, hg, rfl, hm, hB1⟩; have HM := Aside0.mk hm; have HB1 := Aside0.mk hB1; clear hm hB1 hg) | (with_reducible refine wpList_lookup_some rfl 52 _ _ _ rfl Try.underlying52 Try.underlying3 _ rfl rfl HM.out HL.out ?_))
  go_ret2
  exact ⟨.slice none 0 0, rfl, Kd.R_nil _ _ _ _ _, by repeat (first | exact HB1.out | exact Below.refl _ _ | apply below_alloc | apply pw_below_drewN | apply below_drew1 | refine below_set ?_ (by have := HB1.out.size; first | omega | (simp; omega)))⟩

set_option maxHeartbeats 1000000 in
set_option maxRecDepth 100000 in
theorem chart_Post.b5 (a0 a1 on ag : Int) (w : World) (hl : lk chart_entries.m a0 = some (.agg #[.int .i64 on, .int .i64 ag, .bool false])) (h3 : ¬ a1 < -1125899906842624) (h4 : ¬ a1 > 1125899906842624) (h5 : a1 < 0) : Calls Try.prog 9 #[.int .i64 a0, .int .i64 a1] w (chart_Post.P w ([], 2)) := by
  have HL := Aside0.mk hl
  clear hl
  have hz : ∀ W, (zeroValue 50).run Try.prog W = .ok (.agg #[.int .i64 0, .int .i64 0, .bool false]) W := fun W => by kernel_rfl
  go_enter Try.func9, Try.ntmps9
  go_wp2_with (first | (go_at_call 22; refine (chart_entries.calls _).mono ?_; rintro e w1 ⟨g, hg, rfl, hm, hB1⟩; have HM := Aside0.mk hm; have HB1 := Aside0.mk hB1; clear hm hB1 hg) | (with_reducible refine wpList_lookup_some rfl 52 _ _ _ rfl Try.underlying52 Try.underlying3 _ rfl rfl HM.out HL.out ?_))
  go_ret2
  exact ⟨.slice none 0 0, rfl, Kd.R_nil _ _ _ _ _, by repeat (first | exact HB1.out | exact Below.refl _ _ | apply below_alloc | apply pw_below_drewN | apply below_drew1 | refine below_set ?_ (by have := HB1.out.size; first | omega | (simp; omega)))⟩

set_option maxHeartbeats 1000000 in
set_option maxRecDepth 100000 in
theorem chart_Post.z (a0 on ag : Int) (bo : Bool) (w : World) (hl : lk chart_entries.m a0 = some (.agg #[.int .i64 on, .int .i64 ag, .bool bo])) : Calls Try.prog 9 #[.int .i64 a0, .int .i64 0] w (chart_Post.P w ([], 0)) := by
  have HL := Aside0.mk hl
  clear hl
  have hz : ∀ W, (zeroValue 50).run Try.prog W = .ok (.agg #[.int .i64 0, .int .i64 0, .bool false]) W := fun W => by kernel_rfl
  go_enter Try.func9, Try.ntmps9
  go_wp2_with (first | (go_at_call 22; refine (chart_entries.calls _).mono ?_; rintro e w1 ⟨g, hg, rfl, hm, hB1⟩; have HM := Aside0.mk hm; have HB1 := Aside0.mk hB1; clear hm hB1 hg) | (with_reducible refine wpList_lookup_some rfl 52 _ _ _ rfl Try.underlying52 Try.underlying3 _ rfl rfl HM.out HL.out ?_))
  go_ret2
  exact ⟨.slice none 0 0, rfl, Kd.R_nil _ _ _ _ _, by repeat (first | exact HB1.out | exact Below.refl _ _ | apply below_alloc | apply pw_below_drewN | apply below_drew1 | refine below_set ?_ (by have := HB1.out.size; first | omega | (simp; omega)))⟩

set_option maxHeartbeats 1000000 in
set_option maxRecDepth 100000 in
theorem chart_Post.gp (a0 a1 on ag : Int) (bo : Bool) (w : World) (hl : lk chart_entries.m a0 = some (.agg #[.int .i64 on, .int .i64 ag, .bool bo])) (h3 : ¬ a1 < -1125899906842624) (h4 : ¬ a1 > 1125899906842624) (h5 : 0 < a1) (h6 : (a1 == 0) = false) : Calls Try.prog 9 #[.int .i64 a0, .int .i64 a1] w (chart_Post.P w ([⟨on, a1⟩, ⟨ag, -a1⟩], 0)) := by
  have HL := Aside0.mk hl
  clear hl
  have hz : ∀ W, (zeroValue 50).run Try.prog W = .ok (.agg #[.int .i64 0, .int .i64 0, .bool false]) W := fun W => by kernel_rfl
  go_enter Try.func9, Try.ntmps9
  go_wp2_with (first | (go_at_call 22; refine (chart_entries.calls _).mono ?_; rintro e w1 ⟨g, hg, rfl, hm, hB1⟩; have HM := Aside0.mk hm; have HB1 := Aside0.mk hB1; clear hm hB1 hg) | (with_reducible refine wpList_lookup_some rfl 52 _ _ _ rfl Try.underlying52 Try.underlying3 _ rfl rfl HM.out HL.out ?_))
  go_ret2
  refine ⟨.slice (some ⟨w1.heap.size + 1, 0, none⟩) 2 2, rfl, R_blk (d := k45) (g := w1.heap.size + 1) (base := w.heap.size) (xs := [(⟨on, a1⟩ : S45), (⟨ag, -a1⟩ : S45)]) (inner := [.int .i64 on, .int .i64 a1, .int .i64 ag, .int .i64 (-a1)]) ?_ (by have := HB1.out.size; omega) (fun ok => Reps.c2 (k45_mkM _ _ _ _) (Reps.c2 (k45_mkM _ _ _ _) (Reps.none _ _))) (by simp), by repeat (first | exact HB1.out | exact Below.refl _ _ | apply below_alloc | apply pw_below_drewN | apply below_drew1 | refine below_set ?_ (by have := HB1.out.size; first | omega | (simp; omega)))⟩
  have hh := blk_new (w1.alloc (.cells #[.int .i64 on, .int .i64 ag, .bool bo] 50)) (.cells #[.int .i64 on, .int .i64 a1, .int .i64 ag, .int .i64 (-a1)] 45)
  simpa using hh

set_option maxHeartbeats 1000000 in
set_option maxRecDepth 100000 in
theorem chart_Post.gn (a0 a1 on ag : Int) (w : World) (hl : lk chart_entries.m a0 = some (.agg #[.int .i64 on, .int .i64 ag, .bool true])) (h3 : ¬ a1 < -1125899906842624) (h4 : ¬ a1 > 1125899906842624) (h5 : a1 < 0) (h6 : (a1 == 0) = false) : Calls Try.prog 9 #[.int .i64 a0, .int .i64 a1] w (chart_Post.P w ([⟨on, a1⟩, ⟨ag, -a1⟩], 0)) := by
  have HL := Aside0.mk hl
  clear hl
  have hz : ∀ W, (zeroValue 50).run Try.prog W = .ok (.agg #[.int .i64 0, .int .i64 0, .bool false]) W := fun W => by kernel_rfl
  go_enter Try.func9, Try.ntmps9
  go_wp2_with (first | (go_at_call 22; refine (chart_entries.calls _).mono ?_; rintro e w1 ⟨g, hg, rfl, hm, hB1⟩; have HM := Aside0.mk hm; have HB1 := Aside0.mk hB1; clear hm hB1 hg) | (with_reducible refine wpList_lookup_some rfl 52 _ _ _ rfl Try.underlying52 Try.underlying3 _ rfl rfl HM.out HL.out ?_))
  go_ret2
  refine ⟨.slice (some ⟨w1.heap.size + 1, 0, none⟩) 2 2, rfl, R_blk (d := k45) (g := w1.heap.size + 1) (base := w.heap.size) (xs := [(⟨on, a1⟩ : S45), (⟨ag, -a1⟩ : S45)]) (inner := [.int .i64 on, .int .i64 a1, .int .i64 ag, .int .i64 (-a1)]) ?_ (by have := HB1.out.size; omega) (fun ok => Reps.c2 (k45_mkM _ _ _ _) (Reps.c2 (k45_mkM _ _ _ _) (Reps.none _ _))) (by simp), by repeat (first | exact HB1.out | exact Below.refl _ _ | apply below_alloc | apply pw_below_drewN | apply below_drew1 | refine below_set ?_ (by have := HB1.out.size; first | omega | (simp; omega)))⟩
  have hh := blk_new (w1.alloc (.cells #[.int .i64 on, .int .i64 ag, .bool true] 50)) (.cells #[.int .i64 on, .int .i64 a1, .int .i64 ag, .int .i64 (-a1)] 45)
  simpa using hh

theorem chart_Post.lk_no {a0 : Int} (h : a0 < 1 ∨ 7 < a0) : lk chart_entries.m a0 = none := by
  have h1 : ((1 : Int) == a0) = false := by rw [beq_eq_false_iff_ne]; omega
  have h2 : ((2 : Int) == a0) = false := by rw [beq_eq_false_iff_ne]; omega
  have h3 : ((3 : Int) == a0) = false := by rw [beq_eq_false_iff_ne]; omega
  have h4 : ((4 : Int) == a0) = false := by rw [beq_eq_false_iff_ne]; omega
  have h5 : ((5 : Int) == a0) = false := by rw [beq_eq_false_iff_ne]; omega
  have h6 : ((6 : Int) == a0) = false := by rw [beq_eq_false_iff_ne]; omega
  have h7 : ((7 : Int) == a0) = false := by rw [beq_eq_false_iff_ne]; omega
  simp [lk, chart_entries.m, h1, h2, h3, h4, h5, h6, h7]
theorem chart_Post.lk_yes {a0 : Int} (h1 : 1 ≤ a0) (h2 : a0 ≤ 7) : lk chart_entries.m a0 = some (.agg #[.int .i64 (chart_Post.on a0), .int .i64 (chart_Post.ag a0), .bool (decide (a0 = 2 ∨ a0 = 4 ∨ a0 = 5))]) := by
  have hk : a0 = 1 ∨ a0 = 2 ∨ a0 = 3 ∨ a0 = 4 ∨ a0 = 5 ∨ a0 = 6 ∨ a0 = 7 := by omega
  rcases hk with rfl | rfl | rfl | rfl | rfl | rfl | rfl <;> rfl
theorem chart_Post.calls (a0 : Int) (a1 : Int) (r1 : List (S45)) (r2 : Int) (w : World) (h : chart_Post.f a0 a1 = some (r1, r2)) :
    Calls Try.prog 9 #[.int .i64 a0, .int .i64 a1] w fun e w' => ∃ v0_ : Value, e = .returned (.tuple #[v0_, .int .i64 r2]) ∧ Kd.R k45 45 w' w.heap.size (fun _ => True) v0_ r1 ∧ Below w.heap.size w w' := by
  have key : Calls Try.prog 9 #[.int .i64 a0, .int .i64 a1] w (chart_Post.P w (r1, r2)) := by
    have H := Option.some.inj h
    by_cases ck : a0 < 1 ∨ 7 < a0
    · have cb : chart_Post.bad a0 a1 = true := by unfold chart_Post.bad; rw [decide_eq_true_eq]; omega
      rw [if_pos cb] at H
      rw [← H]
      exact chart_Post.b12 a0 a1 w (chart_Post.lk_no ck)
    have hl := chart_Post.lk_yes (a0 := a0) (by omega) (by omega)
    by_cases cb : chart_Post.bad a0 a1 = true
    · rw [if_pos cb] at H
      rw [← H]
      unfold chart_Post.bad at cb
      rw [decide_eq_true_eq] at cb
      by_cases c3 : a1 < -1125899906842624
      · exact chart_Post.b3 a0 a1 _ _ _ w hl c3
      by_cases c4 : 1125899906842624 < a1
      · exact chart_Post.b4 a0 a1 _ _ _ w hl c4 c3
      · rw [decide_eq_false (by omega)] at hl
        exact chart_Post.b5 a0 a1 _ _ w hl c3 c4 (by omega)
    · rw [if_neg cb] at H
      unfold chart_Post.bad at cb
      rw [decide_eq_true_eq] at cb
      by_cases c0 : a1 = 0
      · rw [if_pos c0] at H
        rw [← H]
        subst c0
        exact chart_Post.z a0 _ _ _ w hl
      · rw [if_neg c0] at H
        rw [← H]
        by_cases s : 0 < a1
        · exact chart_Post.gp a0 a1 _ _ _ w hl (by omega) (by omega) s (by rw [beq_eq_false_iff_ne]; omega)
        · rw [decide_eq_true (by omega)] at hl
          exact chart_Post.gn a0 a1 _ _ w hl (by omega) (by omega) (by omega) (by rw [beq_eq_false_iff_ne]; omega)
  exact key


end Go.Proofs.Ytmafmbcgjeecjaa.Print
