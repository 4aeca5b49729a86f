-- written by this session's program wip/hybrid.py over the kit's printer, and by hand. Not trusted: Lean checks it.
import Derived.Test.YtmafmbcgjeecjaaPrint0
import Derived.Test.YtmafmbcgjeecjaaPrint4
import Derived.Test.YtmafmbcgjeecjaaPrint9
import Derived.Test.YtmafmbcgjeecjaaPrint18
namespace Go.Proofs.Ytmafmbcgjeecjaa.Print
open Go.RowKit Go.Proofs.YtmafmbcgjeecjaaW.PrintWords Go.Proofs.YtmafmbcgjeecjaaW.PrintLast Go.Proofs.YtmafmbcgjeecjaaW.PrintMore
attribute [local go_sem] max2_int min2_int max_two min_two max_three min_three max_four min_four   -- for this text's walks alone
set_option linter.unusedVariables false
set_option linter.unusedSimpArgs false

/-! ### lombardlaw17_ChartTwice: function 6 -/
def lombardlaw17_ChartTwice.j0 : Nat → List (S45) → List (S45) → Int → Bool → Option (Bool)
  | 0, _, _, _, _ => none
  | k + 1, x5, x7, x8, x51 => if x51 = true then (some false) else (if x8 = 0 then (if x5.length + x7.length < 8796093022208 then ((chart_Net.f (x5 ++ x7)).bind fun bt227 => (if bt227.2 = 0 then (some ((bt227.1.length : Int) == 0)) else (some false))) else (none)) else (some (x8 == 2)))
def lombardlaw17_ChartTwice.f (k : Nat) (a0 : Int) (a1 : Int) : Option (Bool) := (lombardlaw17_alive.f k).bind fun t213 => (if t213 = true then ((chart_Post.f a0 a1).bind fun bt214 => (if bt214.2 = 0 then (if a1 = 0 then (some ((bt214.1.length : Int) == 0)) else ((chart_Post.f a0 (wrap64 (-a1))).bind fun bt218 => ((chart_Check.f k bt214.1).bind fun t222 => (if t222 = 0 then (if (bt214.1.length : Int) = 2 then (if 0 < (bt214.1.length : Int) then (lombardlaw17_ChartTwice.j0 k bt214.1 bt218.1 bt218.2 (((rd_T45 bt214.1 0).f1) != a1)) else (none)) else (lombardlaw17_ChartTwice.j0 k bt214.1 bt218.1 bt218.2 true)) else (lombardlaw17_ChartTwice.j0 k bt214.1 bt218.1 bt218.2 true))))) else (some ((bt214.1.length : Int) == 0)))) else (some false))
theorem lombardlaw17_ChartTwice.mono_l : ∀ k, (∀ y0 y1 y2 y3, LeO (lombardlaw17_ChartTwice.j0 k y0 y1 y2 y3) (lombardlaw17_ChartTwice.j0 (k + 1) y0 y1 y2 y3))
  | 0 => fun _ _ _ _ r h => by simp [lombardlaw17_ChartTwice.j0] at h
  | k + 1 => by
    have ih0 := lombardlaw17_ChartTwice.mono_l k
    · intro y0 y1 y2 y3
      unfold lombardlaw17_ChartTwice.j0
      repeat' first
      | (with_reducible exact ih0 _ _ _ _)
      | (with_reducible exact chart_Check.mono _ _)
      | (with_reducible exact lombardlaw17_alive.mono _)
      | (with_reducible exact LeO.refl _)
      | (with_reducible exact LeO.none _)
      | (with_reducible refine LeO.ite ?_ ?_)
      | (with_reducible refine LeO.bind ?_ (fun _ => ?_))
      | exact ih0 _ _ _ _
      | exact chart_Check.mono _ _
      | exact lombardlaw17_alive.mono _
      | exact LeO.none _
      | refine LeO.ite ?_ ?_
      | refine LeO.bind ?_ (fun _ => ?_)
theorem lombardlaw17_ChartTwice.mono : ∀ a0 a1 k, LeO (lombardlaw17_ChartTwice.f k a0 a1) (lombardlaw17_ChartTwice.f (k + 1) a0 a1) := by
  intro a0 a1 k
  have ih0 := lombardlaw17_ChartTwice.mono_l k
  unfold lombardlaw17_ChartTwice.f
  repeat' first
      | (with_reducible exact ih0 _ _ _ _)
      | (with_reducible exact chart_Check.mono _ _)
      | (with_reducible exact lombardlaw17_alive.mono _)
      | (with_reducible exact LeO.refl _)
      | (with_reducible exact LeO.none _)
      | (with_reducible refine LeO.ite ?_ ?_)
      | (with_reducible refine LeO.bind ?_ (fun _ => ?_))
      | exact ih0 _ _ _ _
      | exact chart_Check.mono _ _
      | exact lombardlaw17_alive.mono _
      | exact LeO.none _
      | refine LeO.ite ?_ ?_
      | refine LeO.bind ?_ (fun _ => ?_)
set_option maxHeartbeats 8000000 in
set_option maxRecDepth 100000 in
theorem lombardlaw17_ChartTwice.calls (k : Nat) (a0 : Int) (a1 : Int) (r : Bool) (w : World) (h : lombardlaw17_ChartTwice.f k a0 a1 = some r) :
    Calls Try.prog 6 #[.int .i64 a0, .int .i64 a1] w fun e w' => e = .returned (.bool r) ∧ Below w.heap.size w w' := by
  have HB := Aside0.mk (Below.refl w.heap.size w)
  have H : ((lombardlaw17_alive.f k).bind fun t213 => (if t213 = true then ((chart_Post.f a0 a1).bind fun bt214 => (if bt214.2 = 0 then (if a1 = 0 then (some ((bt214.1.length : Int) == 0)) else ((chart_Post.f a0 (wrap64 (-a1))).bind fun bt218 => ((chart_Check.f k bt214.1).bind fun t222 => (if t222 = 0 then (if (bt214.1.length : Int) = 2 then (if 0 < (bt214.1.length : Int) then (lombardlaw17_ChartTwice.j0 k bt214.1 bt218.1 bt218.2 (((rd_T45 bt214.1 0).f1) != a1)) else (none)) else (lombardlaw17_ChartTwice.j0 k bt214.1 bt218.1 bt218.2 true)) else (lombardlaw17_ChartTwice.j0 k bt214.1 bt218.1 bt218.2 true))))) else (some ((bt214.1.length : Int) == 0)))) else (some false))) = some r := h
  clear h
  replace H := Option.bind_eq_some_iff.mp H
  obtain ⟨t213, A30, H⟩ := H
  replace H : (if t213 = true then ((chart_Post.f a0 a1).bind fun bt214 => (if bt214.2 = 0 then (if a1 = 0 then (some ((bt214.1.length : Int) == 0)) else ((chart_Post.f a0 (wrap64 (-a1))).bind fun bt218 => ((chart_Check.f k bt214.1).bind fun t222 => (if t222 = 0 then (if (bt214.1.length : Int) = 2 then (if 0 < (bt214.1.length : Int) then (lombardlaw17_ChartTwice.j0 k bt214.1 bt218.1 bt218.2 (((rd_T45 bt214.1 0).f1) != a1)) else (none)) else (lombardlaw17_ChartTwice.j0 k bt214.1 bt218.1 bt218.2 true)) else (lombardlaw17_ChartTwice.j0 k bt214.1 bt218.1 bt218.2 true))))) else (some ((bt214.1.length : Int) == 0)))) else (some false)) = some r := H
  have A3 := Aside0.mk A30
  clear A30
  by_cases c4 : t213 = true
  · subst c4
    have H1 : ((chart_Post.f a0 a1).bind fun bt214 => (if bt214.2 = 0 then (if a1 = 0 then (some ((bt214.1.length : Int) == 0)) else ((chart_Post.f a0 (wrap64 (-a1))).bind fun bt218 => ((chart_Check.f k bt214.1).bind fun t222 => (if t222 = 0 then (if (bt214.1.length : Int) = 2 then (if 0 < (bt214.1.length : Int) then (lombardlaw17_ChartTwice.j0 k bt214.1 bt218.1 bt218.2 (((rd_T45 bt214.1 0).f1) != a1)) else (none)) else (lombardlaw17_ChartTwice.j0 k bt214.1 bt218.1 bt218.2 true)) else (lombardlaw17_ChartTwice.j0 k bt214.1 bt218.1 bt218.2 true))))) else (some ((bt214.1.length : Int) == 0)))) = some r := by rw [if_pos rfl] at H; exact H
    clear H
    have H := H1
    clear H1
    replace H := Option.bind_eq_some_iff.mp H
    obtain ⟨⟨t214, t215⟩, A50, H⟩ := H
    replace H : (if t215 = 0 then (if a1 = 0 then (some ((t214.length : Int) == 0)) else ((chart_Post.f a0 (wrap64 (-a1))).bind fun bt218 => ((chart_Check.f k t214).bind fun t222 => (if t222 = 0 then (if (t214.length : Int) = 2 then (if 0 < (t214.length : Int) then (lombardlaw17_ChartTwice.j0 k t214 bt218.1 bt218.2 (((rd_T45 t214 0).f1) != a1)) else (none)) else (lombardlaw17_ChartTwice.j0 k t214 bt218.1 bt218.2 true)) else (lombardlaw17_ChartTwice.j0 k t214 bt218.1 bt218.2 true))))) else (some ((t214.length : Int) == 0))) = some r := H
    have A5 := Aside0.mk A50
    clear A50
    by_cases c6 : t215 = 0
    · rw [if_pos c6] at H
      have c6b0 : (t215 == 0) = true := beq_iff_eq.mpr c6
      have c6b1 : (t215 != 0) = false := bne_eq_false_iff_eq.mpr c6
      clear c6
      by_cases c7 : a1 = 0
      · rw [if_pos c7] at H
        have c7b0 : (a1 == 0) = true := beq_iff_eq.mpr c7
        have c7b1 : (a1 != 0) = false := bne_eq_false_iff_eq.mpr c7
        clear c7
        obtain rfl := Option.some.inj H
        go_enter Try.func6, Try.ntmps6
        go_wp2_with (first | ((with_reducible refine gate_callee (f := 8) rfl ?_); refine goesL_ (some 11) rfl rfl Try.func8 (by kernel_rfl) rfl #[] rfl (by (try simp only [List.map_toArray, List.map_cons, List.map_nil]); first | done | rfl | (simp only [List.length_drop, List.length_take]; rfl)) ?_; (with_reducible refine (lombardlaw17_alive.calls k  true _ A3.out).mono ?_); rintro e w8 ⟨rfl, hb⟩; refine ⟨_, rfl, ?_⟩; have n0_ := Aside0.mk (below_step (by repeat (first | (with_reducible first | exact HB.out | apply below_alloc | apply pw_below_drewN | apply below_drew1) | exact HB.out)) hb); clear HB; have HB := n0_; clear n0_; (try clear hb); (try clear hb2); (try clear hk); (try clear hi)) | ((with_reducible refine gate_callee (f := 9) rfl ?_); refine goesL_ (some 16) rfl rfl Try.func9 (by kernel_rfl) rfl #[.int .i64 a0, .int .i64 a1] rfl (by (try simp only [List.map_toArray, List.map_cons, List.map_nil]); first | done | rfl | (simp only [List.length_drop, List.length_take]; rfl)) ?_; (with_reducible refine (chart_Post.calls a0 a1 t214 t215 _ A5.out).mono ?_); rintro e w9 ⟨v216, rfl, ho0, hb⟩; refine ⟨_, rfl, ?_⟩; have n0_ := Aside0.mk (Kd.R_lower ho0 (below_size (by repeat (first | (with_reducible first | exact HB.out | apply below_alloc | apply pw_below_drewN | apply below_drew1) | exact HB.out)))); have n1_ := Aside0.mk (below_step (by repeat (first | (with_reducible first | exact HB.out | apply below_alloc | apply pw_below_drewN | apply below_drew1) | exact HB.out)) hb); clear HB; have HO217 := n0_; have HB := n1_; clear n0_ n1_; (try clear hb); (try clear hb2); (try clear hk); (try clear hi); (try clear ho0); obtain ⟨Ao10, co10, eo10⟩ := Kd.R_slice HO217.out; subst eo10))
        go_ret
        exact ⟨by first | rfl | (simp [errW_none, errW_some] <;> rfl) | (simp [*, errW_none, errW_some] <;> rfl), by repeat (first | (with_reducible first | exact HB.out | apply below_alloc | apply pw_below_drewN | apply below_drew1) | exact HB.out)⟩
      · rw [if_neg c7] at H
        have c7b0 : (a1 == 0) = false := beq_eq_false_iff_ne.mpr c7
        have c7b1 : (a1 != 0) = true := bne_iff_ne.mpr c7
        replace H := Option.bind_eq_some_iff.mp H
        obtain ⟨⟨t218, t219⟩, A110, H⟩ := H
        replace H : ((chart_Check.f k t214).bind fun t222 => (if t222 = 0 then (if (t214.length : Int) = 2 then (if 0 < (t214.length : Int) then (lombardlaw17_ChartTwice.j0 k t214 t218 t219 (((rd_T45 t214 0).f1) != a1)) else (none)) else (lombardlaw17_ChartTwice.j0 k t214 t218 t219 true)) else (lombardlaw17_ChartTwice.j0 k t214 t218 t219 true))) = some r := H
        have A11 := Aside0.mk A110
        clear A110
        have HC12 := Aside0.mk H
        clear H
        go_enter Try.func6, Try.ntmps6
        go_upto_region 9 with (first | ((with_reducible refine gate_callee (f := 8) rfl ?_); refine goesL_ (some 11) rfl rfl Try.func8 (by kernel_rfl) rfl #[] rfl (by (try simp only [List.map_toArray, List.map_cons, List.map_nil]); first | done | rfl | (simp only [List.length_drop, List.length_take]; rfl)) ?_; (with_reducible refine (lombardlaw17_alive.calls k  true _ A3.out).mono ?_); rintro e w13 ⟨rfl, hb⟩; refine ⟨_, rfl, ?_⟩; have n0_ := Aside0.mk (below_step (by repeat (first | (with_reducible first | exact HB.out | apply below_alloc | apply pw_below_drewN | apply below_drew1) | exact HB.out)) hb); clear HB; have HB := n0_; clear n0_; (try clear hb); (try clear hb2); (try clear hk); (try clear hi)) | ((with_reducible refine gate_callee (f := 9) rfl ?_); refine goesL_ (some 16) rfl rfl Try.func9 (by kernel_rfl) rfl #[.int .i64 a0, .int .i64 a1] rfl (by (try simp only [List.map_toArray, List.map_cons, List.map_nil]); first | done | rfl | (simp only [List.length_drop, List.length_take]; rfl)) ?_; (with_reducible refine (chart_Post.calls a0 a1 t214 t215 _ A5.out).mono ?_); rintro e w14 ⟨v216, rfl, ho0, hb⟩; refine ⟨_, rfl, ?_⟩; have n0_ := Aside0.mk (Kd.R_lower ho0 (below_size (by repeat (first | (with_reducible first | exact HB.out | apply below_alloc | apply pw_below_drewN | apply below_drew1) | exact HB.out)))); have n1_ := Aside0.mk (below_step (by repeat (first | (with_reducible first | exact HB.out | apply below_alloc | apply pw_below_drewN | apply below_drew1) | exact HB.out)) hb); clear HB; have HO217 := n0_; have HB := n1_; clear n0_ n1_; (try clear hb); (try clear hb2); (try clear hk); (try clear hi); (try clear ho0)) | ((with_reducible refine gate_callee (f := 9) rfl ?_); refine goesL_ (some 33) rfl rfl Try.func9 (by kernel_rfl) rfl #[.int .i64 a0, .int .i64 (wrap64 (-a1))] rfl (by (try simp only [List.map_toArray, List.map_cons, List.map_nil]); first | done | rfl | (simp only [List.length_drop, List.length_take]; rfl)) ?_; (with_reducible refine (chart_Post.calls a0 (wrap64 (-a1)) t218 t219 _ A11.out).mono ?_); rintro e w15 ⟨v220, rfl, ho0, hb⟩; refine ⟨_, rfl, ?_⟩; have n0_ := Aside0.mk (Kd.R_elder' (by (with_reducible repeat (first | apply Kd.R_alloc | apply Kd.R_drewN | apply Kd.R_drew)); exact HO217.out) (Kd.R_base ho0) hb); have n1_ := Aside0.mk (Kd.R_lower (Kd.R_new' ho0 (Kd.R_lt (by (with_reducible repeat (first | apply Kd.R_alloc | apply Kd.R_drewN | apply Kd.R_drew)); exact HO217.out))) (below_size (by repeat (first | (with_reducible first | exact HB.out | apply below_alloc | apply pw_below_drewN | apply below_drew1) | exact HB.out)))); have n2_ := Aside0.mk (below_step (by repeat (first | (with_reducible first | exact HB.out | apply below_alloc | apply pw_below_drewN | apply below_drew1) | exact HB.out)) hb); clear HO217; clear HB; have HO217 := n0_; have HO221 := n1_; have HB := n2_; clear n0_ n1_ n2_; (try clear hb); (try clear hb2); (try clear hk); (try clear hi); (try clear ho0)))
        (try simp only [Act.put, List.setIfInBounds_toArray, List.set_cons_zero, List.set_cons_succ])
        go_cut [51] (fun v51 wc => ∃ (kq : Nat) (x51_11 : Bool), v51 = .bool x51_11 ∧ Aside0 (lombardlaw17_ChartTwice.j0 kq t214 t218 t219 x51_11 = some r) ∧ Aside0 (kq ≤ k) ∧ Aside0 (Kd.R k45 45 wc w.heap.size (fun k_ => some k_ ≠ (v220 : Value).ownBlock) v216 t214) ∧ Aside0 (Kd.R k45 45 wc w.heap.size (fun k_ => some k_ ≠ (v216 : Value).ownBlock) v220 t218) ∧ Aside0 (Below w.heap.size w wc))
        case first =>
          have H := HC12.out
          clear HC12
          replace H := Option.bind_eq_some_iff.mp H
          obtain ⟨t222, A160, H⟩ := H
          replace H : (if t222 = 0 then (if (t214.length : Int) = 2 then (if 0 < (t214.length : Int) then (lombardlaw17_ChartTwice.j0 k t214 t218 t219 (((rd_T45 t214 0).f1) != a1)) else (none)) else (lombardlaw17_ChartTwice.j0 k t214 t218 t219 true)) else (lombardlaw17_ChartTwice.j0 k t214 t218 t219 true)) = some r := H
          have A16 := Aside0.mk A160
          clear A160
          by_cases c17 : t222 = 0
          · rw [if_pos c17] at H
            have c17b0 : (t222 == 0) = true := beq_iff_eq.mpr c17
            have c17b1 : (t222 != 0) = false := bne_eq_false_iff_eq.mpr c17
            clear c17
            (first | rw [c17b0] | (simp only [i64_w, i32_w]; rw [c17b0]) | skip)
            by_cases c18 : (t214.length : Int) = 2
            · rw [if_pos c18] at H
              have c18b0 : ((t214.length : Int) == 2) = true := beq_iff_eq.mpr c18
              have c18b1 : ((t214.length : Int) != 2) = false := bne_eq_false_iff_eq.mpr c18
              clear c18
              by_cases c19 : 0 < (t214.length : Int)
              · rw [if_pos c19] at H
                have c19b0 : decide (0 < (t214.length : Int)) = true := decide_eq_true c19
                have c19b1 : decide (0 < t214.length) = true := decide_eq_true (by omega)
                clear c19
                have H' := Aside0.mk H
                clear H
                obtain ⟨Ao20, co20, eo20⟩ := Kd.R_slice HO217.out
                subst eo20
                go_wp2_with (first | ((with_reducible refine gate_callee (f := 20) rfl ?_); refine goesL_ (some 37) rfl rfl Try.func20 (by kernel_rfl) rfl #[.slice Ao20 t214.length co20] rfl (by (try simp only [List.map_toArray, List.map_cons, List.map_nil]); first | done | rfl | (simp only [List.length_drop, List.length_take]; rfl)) ?_; (with_reducible refine (chart_Check.calls k _ _ t214 t222 _ ?side1 ?side2 A16.out).mono ?_); (case side1 => repeat (first | exact (Kd.R_reads' HO217.out).2.2 | (with_reducible refine Kd.C_alloc ?_ _) | (with_reducible refine Kd.C_drewN ?_ _) | (with_reducible refine Kd.C_drew ?_))); (case side2 => exact (Kd.R_reads' HO217.out).2.1); rintro e w21 ⟨rfl, hb⟩; refine ⟨_, rfl, ?_⟩; have n0_ := Aside0.mk (Kd.R_below (by (with_reducible repeat (first | apply Kd.R_alloc | apply Kd.R_drewN | apply Kd.R_drew)); exact HO217.out) hb); have n1_ := Aside0.mk (Kd.R_below (by (with_reducible repeat (first | apply Kd.R_alloc | apply Kd.R_drewN | apply Kd.R_drew)); exact HO221.out) hb); have n2_ := Aside0.mk (below_step (by repeat (first | (with_reducible first | exact HB.out | apply below_alloc | apply pw_below_drewN | apply below_drew1) | exact HB.out)) hb); clear HO217; clear HO221; clear HB; have HO217 := n0_; have HO221 := n1_; have HB := n2_; clear n0_ n1_ n2_; (try clear hb); (try clear hb2); (try clear hk); (try clear hi); have p223 : 0 ≤ (0 : Int) := (by omega); have q223 : 0 < (t214.length : Int) := of_decide_eq_true (by first | (with_reducible assumption) | assumption); obtain ⟨ad223, e223, hx223_0, hx223_1⟩ := at_T45 (Kd.R_reads' HO217.out).2.2 0 p223 q223; cases e223; have qi223 : (0 < t214.length) = True := eq_true (by omega); (try rw [show ((0 : Int)).toNat = 0 from rfl] at hx223_0); (try rw [show 0 * 2 = 0 from rfl] at hx223_0); (try rw [Addr.add_zero'] at hx223_0); (try rw [show ((0 : Int)).toNat = 0 from rfl] at hx223_1); (try rw [show 0 * 2 = 0 from rfl] at hx223_1); (try rw [Addr.add_zero'] at hx223_1); replace p223 := eq_true p223; replace q223 := eq_true q223))
                go_meet
                case rel => exact ⟨_, ((((rd_T45 t214 0).f1) != a1)), (by first | rfl | (simp; done) | (simp [*]; done)), H', ⟨by first | omega | exact Nat.le_refl _⟩, ⟨by (with_reducible repeat (first | apply Kd.R_alloc | apply Kd.R_drewN | apply Kd.R_drew)); exact Kd.R_mono HO217.out (fun _ hk => hk.2)⟩, ⟨by (with_reducible repeat (first | apply Kd.R_alloc | apply Kd.R_drewN | apply Kd.R_drew)); exact Kd.R_mono HO221.out (fun _ hk => hk.2)⟩, ⟨by repeat (first | (with_reducible first | exact HB.out | apply below_alloc | apply pw_below_drewN | apply below_drew1) | exact HB.out)⟩⟩
              · rw [if_neg c19] at H
                exact absurd H (by simp)
            · rw [if_neg c18] at H
              have c18b0 : ((t214.length : Int) == 2) = false := beq_eq_false_iff_ne.mpr c18
              have c18b1 : ((t214.length : Int) != 2) = true := bne_iff_ne.mpr c18
              have H' := Aside0.mk H
              clear H
              obtain ⟨Ao22, co22, eo22⟩ := Kd.R_slice HO217.out
              subst eo22
              go_wp2_with (first | ((with_reducible refine gate_callee (f := 20) rfl ?_); refine goesL_ (some 37) rfl rfl Try.func20 (by kernel_rfl) rfl #[.slice Ao22 t214.length co22] rfl (by (try simp only [List.map_toArray, List.map_cons, List.map_nil]); first | done | rfl | (simp only [List.length_drop, List.length_take]; rfl)) ?_; (with_reducible refine (chart_Check.calls k _ _ t214 t222 _ ?side1 ?side2 A16.out).mono ?_); (case side1 => repeat (first | exact (Kd.R_reads' HO217.out).2.2 | (with_reducible refine Kd.C_alloc ?_ _) | (with_reducible refine Kd.C_drewN ?_ _) | (with_reducible refine Kd.C_drew ?_))); (case side2 => exact (Kd.R_reads' HO217.out).2.1); rintro e w23 ⟨rfl, hb⟩; refine ⟨_, rfl, ?_⟩; have n0_ := Aside0.mk (Kd.R_below (by (with_reducible repeat (first | apply Kd.R_alloc | apply Kd.R_drewN | apply Kd.R_drew)); exact HO217.out) hb); have n1_ := Aside0.mk (Kd.R_below (by (with_reducible repeat (first | apply Kd.R_alloc | apply Kd.R_drewN | apply Kd.R_drew)); exact HO221.out) hb); have n2_ := Aside0.mk (below_step (by repeat (first | (with_reducible first | exact HB.out | apply below_alloc | apply pw_below_drewN | apply below_drew1) | exact HB.out)) hb); clear HO217; clear HO221; clear HB; have HO217 := n0_; have HO221 := n1_; have HB := n2_; clear n0_ n1_ n2_; (try clear hb); (try clear hb2); (try clear hk); (try clear hi)))
              go_meet
              case rel => exact ⟨_, (true), (by first | rfl | (simp; done) | (simp [*]; done)), H', ⟨by first | omega | exact Nat.le_refl _⟩, ⟨by (with_reducible repeat (first | apply Kd.R_alloc | apply Kd.R_drewN | apply Kd.R_drew)); exact Kd.R_mono HO217.out (fun _ hk => hk.2)⟩, ⟨by (with_reducible repeat (first | apply Kd.R_alloc | apply Kd.R_drewN | apply Kd.R_drew)); exact Kd.R_mono HO221.out (fun _ hk => hk.2)⟩, ⟨by repeat (first | (with_reducible first | exact HB.out | apply below_alloc | apply pw_below_drewN | apply below_drew1) | exact HB.out)⟩⟩
          · rw [if_neg c17] at H
            have c17b0 : (t222 == 0) = false := beq_eq_false_iff_ne.mpr c17
            have c17b1 : (t222 != 0) = true := bne_iff_ne.mpr c17
            (first | rw [c17b0] | (simp only [i64_w, i32_w]; rw [c17b0]) | skip)
            have H' := Aside0.mk H
            clear H
            obtain ⟨Ao24, co24, eo24⟩ := Kd.R_slice HO217.out
            subst eo24
            go_wp2_with (first | ((with_reducible refine gate_callee (f := 20) rfl ?_); refine goesL_ (some 37) rfl rfl Try.func20 (by kernel_rfl) rfl #[.slice Ao24 t214.length co24] rfl (by (try simp only [List.map_toArray, List.map_cons, List.map_nil]); first | done | rfl | (simp only [List.length_drop, List.length_take]; rfl)) ?_; (with_reducible refine (chart_Check.calls k _ _ t214 t222 _ ?side1 ?side2 A16.out).mono ?_); (case side1 => repeat (first | exact (Kd.R_reads' HO217.out).2.2 | (with_reducible refine Kd.C_alloc ?_ _) | (with_reducible refine Kd.C_drewN ?_ _) | (with_reducible refine Kd.C_drew ?_))); (case side2 => exact (Kd.R_reads' HO217.out).2.1); rintro e w25 ⟨rfl, hb⟩; refine ⟨_, rfl, ?_⟩; have n0_ := Aside0.mk (Kd.R_below (by (with_reducible repeat (first | apply Kd.R_alloc | apply Kd.R_drewN | apply Kd.R_drew)); exact HO217.out) hb); have n1_ := Aside0.mk (Kd.R_below (by (with_reducible repeat (first | apply Kd.R_alloc | apply Kd.R_drewN | apply Kd.R_drew)); exact HO221.out) hb); have n2_ := Aside0.mk (below_step (by repeat (first | (with_reducible first | exact HB.out | apply below_alloc | apply pw_below_drewN | apply below_drew1) | exact HB.out)) hb); clear HO217; clear HO221; clear HB; have HO217 := n0_; have HO221 := n1_; have HB := n2_; clear n0_ n1_ n2_; (try clear hb); (try clear hb2); (try clear hk); (try clear hi)))
            go_meet
            case rel => exact ⟨_, (true), (by first | rfl | (simp; done) | (simp [*]; done)), H', ⟨by first | omega | exact Nat.le_refl _⟩, ⟨by (with_reducible repeat (first | apply Kd.R_alloc | apply Kd.R_drewN | apply Kd.R_drew)); exact Kd.R_mono HO217.out (fun _ hk => hk.2)⟩, ⟨by (with_reducible repeat (first | apply Kd.R_alloc | apply Kd.R_drewN | apply Kd.R_drew)); exact Kd.R_mono HO221.out (fun _ hk => hk.2)⟩, ⟨by repeat (first | (with_reducible first | exact HB.out | apply below_alloc | apply pw_below_drewN | apply below_drew1) | exact HB.out)⟩⟩
        case rest =>
          clear HC12
          try clear c1
          try clear c2
          try clear p2
          try clear q2
          try clear hx2
          try clear qi2
          try clear c4
          try clear c6
          try clear c6b0
          try clear c6b1
          try clear p6
          try clear c7
          try clear c7b0
          try clear c7b1
          try clear c8
          try clear c9
          try clear c17
          try clear c17b0
          try clear c17b1
          try clear c18
          try clear c18b0
          try clear c18b1
          try clear c19
          try clear c19b0
          try clear c19b1
          try clear c20
          try clear p22
          try clear q22
          try clear hx22
          try clear qi22
          try clear hx223_0
          try clear hx223_1
          try clear p223
          try clear q223
          obtain ⟨kq, x51_11, rfl, HA, HJ11, HO_5, HO_7, HB⟩ := hcut
          cases kq with
          | zero => exact absurd HA.out (by simp [lombardlaw17_ChartTwice.j0])
          | succ kj11 =>
            have H := HA.out
            clear HA
            simp only [lombardlaw17_ChartTwice.j0] at H
            by_cases c26 : x51_11 = true
            · subst c26
              have H1 : (some false) = some r := by rw [if_pos rfl] at H; exact H
              clear H
              have H := H1
              clear H1
              obtain rfl := Option.some.inj H
              go_wp2
              go_ret
              exact ⟨by first | rfl | (simp [errW_none, errW_some] <;> rfl) | (simp [*, errW_none, errW_some] <;> rfl), by repeat (first | (with_reducible first | exact HB.out | apply below_alloc | apply pw_below_drewN | apply below_drew1) | exact HB.out)⟩
            · replace c26 := Bool.eq_false_iff.mpr c26
              subst c26
              have H1 : (if t219 = 0 then (if t214.length + t218.length < 8796093022208 then ((chart_Net.f (t214 ++ t218)).bind fun bt227 => (if bt227.2 = 0 then (some ((bt227.1.length : Int) == 0)) else (some false))) else (none)) else (some (t219 == 2))) = some r := by rw [if_neg (show ¬ (false = true) by decide)] at H; exact H
              clear H
              have H := H1
              clear H1
              by_cases c27 : t219 = 0
              · rw [if_pos c27] at H
                have c27b0 : (t219 == 0) = true := beq_iff_eq.mpr c27
                have c27b1 : (t219 != 0) = false := bne_eq_false_iff_eq.mpr c27
                clear c27
                by_cases c28 : t214.length + t218.length < 8796093022208
                · rw [if_pos c28] at H
                  have LMc28 := Aside0.mk c28
                  clear c28
                  obtain ⟨y224, hy224⟩ : ∃ y_ : List (S45), y_ = (t214 ++ t218) := ⟨_, rfl⟩
                  replace H : ((chart_Net.f y224).bind fun bt227 => (if bt227.2 = 0 then (some ((bt227.1.length : Int) == 0)) else (some false))) = some r := by first | (rw [hy224]; with_reducible exact H) | (have H2_ := (Option.bind_some _ _).symm.trans H; rw [hy224]; with_reducible exact H2_) | (have H2_ := (Option.bind_some _ _).symm.trans H; with_reducible exact H2_) | with_reducible exact H | (rw [hy224]; exact H) | exact H
                  have Ny224 := Aside0.mk hy224
                  clear hy224
                  replace H := Option.bind_eq_some_iff.mp H
                  obtain ⟨⟨t227, t228⟩, A290, H⟩ := H
                  replace H : (if t228 = 0 then (some ((t227.length : Int) == 0)) else (some false)) = some r := H
                  have A29 := Aside0.mk A290
                  clear A290
                  by_cases c30 : t228 = 0
                  · rw [if_pos c30] at H
                    have c30b0 : (t228 == 0) = true := beq_iff_eq.mpr c30
                    have c30b1 : (t228 != 0) = false := bne_eq_false_iff_eq.mpr c30
                    clear c30
                    obtain rfl := Option.some.inj H
                    obtain ⟨Ao32, co32, eo32⟩ := Kd.R_slice HO_7.out
                    subst eo32
                    go_wp2_with (first | ((with_reducible refine gate_builtin (b := .append) (xs := #[.tmp 57, .tmp 58]) rfl ?_); (try (refine gate_guard (by rfl) ?_; dsimp only)); at_builtin; refine Kd.R_append_rows k45 (w0 := w) w.heap.size rfl (.tmp 57) (.tmp 58) 25 45 (.agg #[(.int .i64 0), (.int .i64 0)]) 16 rfl Try.underlying25 info45 rfl (by decide) (by omega) v216 t214 t218 _ _ _ (fun k_ => some k_ ≠ (.slice Ao32 t218.length co32 : Value).ownBlock) (fun _ => False) rfl rfl ?aO ?aR (fun _ _ h => h) (fun _ h => h.elim) ?aF ?aB ?aS ?aL ?_; (case aR => repeat (first | exact (Kd.R_reads' HO_7.out).2.2 | (with_reducible refine Kd.C_alloc ?_ _) | (with_reducible refine Kd.C_drewN ?_ _) | (with_reducible refine Kd.C_drew ?_))); (case aB => exact (by repeat (first | (with_reducible first | exact HB.out | apply below_alloc | apply pw_below_drewN | apply below_drew1) | exact HB.out))); (case aF => exact (fun k_ hk => Kd.fresh' (Kd.R_lt (by (with_reducible repeat (first | apply Kd.R_alloc | apply Kd.R_drewN | apply Kd.R_drew)); exact HO_7.out)) k_ hk)); (case aO => exact (by (with_reducible repeat (first | apply Kd.R_alloc | apply Kd.R_drewN | apply Kd.R_drew)); exact HO_5.out)); (case aS => exact (below_size (by repeat (first | (with_reducible first | exact HB.out | apply below_alloc | apply pw_below_drewN | apply below_drew1) | exact HB.out)))); (case aL => have := LMc28.out; omega); intro v225 w31 ho hb hg hat; rw [← Ny224.out] at ho; have n0_ := Aside0.mk (Kd.R_after (ok := (fun _ => True)) (by (with_reducible repeat (first | apply Kd.R_alloc | apply Kd.R_drewN | apply Kd.R_drew)); exact Kd.R_mono HO_7.out (fun _ hk => ⟨trivial, hk⟩)) hg hat); have n1_ := Aside0.mk (hb); have n2_ := Aside0.mk (ho); clear HO_7; clear HB; clear HO_5; have HO_7 := n0_; have HB := n1_; have HO226 := n2_; clear n0_ n1_ n2_; clear ho hb hg hat; obtain ⟨Ao33, co33, eo33⟩ := Kd.R_slice HO226.out; subst eo33) | ((with_reducible refine gate_callee (f := 18) rfl ?_); refine goesL_ (some 60) rfl rfl Try.func18 (by kernel_rfl) rfl #[.slice Ao33 y224.length co33] rfl (by (try simp only [List.map_toArray, List.map_cons, List.map_nil]); first | done | rfl | (simp only [List.length_drop, List.length_take]; rfl)) ?_; (with_reducible refine (chart_Net.calls _ _ y224 t227 t228 _ ?side1 ?side2 A29.out).mono ?_); (case side1 => repeat (first | exact (Kd.R_reads' HO226.out).2.2 | (with_reducible refine Kd.C_alloc ?_ _) | (with_reducible refine Kd.C_drewN ?_ _) | (with_reducible refine Kd.C_drew ?_))); (case side2 => exact (Kd.R_reads' HO226.out).2.1); rintro e w34 ⟨v229, rfl, ho0, hb⟩; refine ⟨_, rfl, ?_⟩; have n0_ := Aside0.mk (Kd.R_elder' (by (with_reducible repeat (first | apply Kd.R_alloc | apply Kd.R_drewN | apply Kd.R_drew)); exact HO_7.out) (Kd.R_base ho0) hb); have n1_ := Aside0.mk (Kd.R_elder' (by (with_reducible repeat (first | apply Kd.R_alloc | apply Kd.R_drewN | apply Kd.R_drew)); exact HO226.out) (Kd.R_base ho0) hb); have n2_ := Aside0.mk (Kd.R_lower (Kd.R_new' (Kd.R_new' ho0 (Kd.R_lt (by (with_reducible repeat (first | apply Kd.R_alloc | apply Kd.R_drewN | apply Kd.R_drew)); exact HO_7.out))) (Kd.R_lt (by (with_reducible repeat (first | apply Kd.R_alloc | apply Kd.R_drewN | apply Kd.R_drew)); exact HO226.out))) (below_size (by repeat (first | (with_reducible first | exact HB.out | apply below_alloc | apply pw_below_drewN | apply below_drew1) | exact HB.out)))); have n3_ := Aside0.mk (below_step (by repeat (first | (with_reducible first | exact HB.out | apply below_alloc | apply pw_below_drewN | apply below_drew1) | exact HB.out)) hb); clear HO_7; clear HO226; clear HB; have HO_7 := n0_; have HO226 := n1_; have HO230 := n2_; have HB := n3_; clear n0_ n1_ n2_ n3_; (try clear hb); (try clear hb2); (try clear hk); (try clear hi); (try clear ho0); obtain ⟨Ao35, co35, eo35⟩ := Kd.R_slice HO230.out; subst eo35))
                    go_ret
                    exact ⟨by first | rfl | (simp [errW_none, errW_some] <;> rfl) | (simp [*, errW_none, errW_some] <;> rfl), by repeat (first | (with_reducible first | exact HB.out | apply below_alloc | apply pw_below_drewN | apply below_drew1) | exact HB.out)⟩
                  · rw [if_neg c30] at H
                    have c30b0 : (t228 == 0) = false := beq_eq_false_iff_ne.mpr c30
                    have c30b1 : (t228 != 0) = true := bne_iff_ne.mpr c30
                    obtain rfl := Option.some.inj H
                    obtain ⟨Ao37, co37, eo37⟩ := Kd.R_slice HO_7.out
                    subst eo37
                    go_wp2_with (first | ((with_reducible refine gate_builtin (b := .append) (xs := #[.tmp 57, .tmp 58]) rfl ?_); (try (refine gate_guard (by rfl) ?_; dsimp only)); at_builtin; refine Kd.R_append_rows k45 (w0 := w) w.heap.size rfl (.tmp 57) (.tmp 58) 25 45 (.agg #[(.int .i64 0), (.int .i64 0)]) 16 rfl Try.underlying25 info45 rfl (by decide) (by omega) v216 t214 t218 _ _ _ (fun k_ => some k_ ≠ (.slice Ao37 t218.length co37 : Value).ownBlock) (fun _ => False) rfl rfl ?aO ?aR (fun _ _ h => h) (fun _ h => h.elim) ?aF ?aB ?aS ?aL ?_; (case aR => repeat (first | exact (Kd.R_reads' HO_7.out).2.2 | (with_reducible refine Kd.C_alloc ?_ _) | (with_reducible refine Kd.C_drewN ?_ _) | (with_reducible refine Kd.C_drew ?_))); (case aB => exact (by repeat (first | (with_reducible first | exact HB.out | apply below_alloc | apply pw_below_drewN | apply below_drew1) | exact HB.out))); (case aF => exact (fun k_ hk => Kd.fresh' (Kd.R_lt (by (with_reducible repeat (first | apply Kd.R_alloc | apply Kd.R_drewN | apply Kd.R_drew)); exact HO_7.out)) k_ hk)); (case aO => exact (by (with_reducible repeat (first | apply Kd.R_alloc | apply Kd.R_drewN | apply Kd.R_drew)); exact HO_5.out)); (case aS => exact (below_size (by repeat (first | (with_reducible first | exact HB.out | apply below_alloc | apply pw_below_drewN | apply below_drew1) | exact HB.out)))); (case aL => have := LMc28.out; omega); intro v225 w36 ho hb hg hat; rw [← Ny224.out] at ho; have n0_ := Aside0.mk (Kd.R_after (ok := (fun _ => True)) (by (with_reducible repeat (first | apply Kd.R_alloc | apply Kd.R_drewN | apply Kd.R_drew)); exact Kd.R_mono HO_7.out (fun _ hk => ⟨trivial, hk⟩)) hg hat); have n1_ := Aside0.mk (hb); have n2_ := Aside0.mk (ho); clear HO_7; clear HB; clear HO_5; have HO_7 := n0_; have HB := n1_; have HO226 := n2_; clear n0_ n1_ n2_; clear ho hb hg hat; obtain ⟨Ao38, co38, eo38⟩ := Kd.R_slice HO226.out; subst eo38) | ((with_reducible refine gate_callee (f := 18) rfl ?_); refine goesL_ (some 60) rfl rfl Try.func18 (by kernel_rfl) rfl #[.slice Ao38 y224.length co38] rfl (by (try simp only [List.map_toArray, List.map_cons, List.map_nil]); first | done | rfl | (simp only [List.length_drop, List.length_take]; rfl)) ?_; (with_reducible refine (chart_Net.calls _ _ y224 t227 t228 _ ?side1 ?side2 A29.out).mono ?_); (case side1 => repeat (first | exact (Kd.R_reads' HO226.out).2.2 | (with_reducible refine Kd.C_alloc ?_ _) | (with_reducible refine Kd.C_drewN ?_ _) | (with_reducible refine Kd.C_drew ?_))); (case side2 => exact (Kd.R_reads' HO226.out).2.1); rintro e w39 ⟨v229, rfl, ho0, hb⟩; refine ⟨_, rfl, ?_⟩; have n0_ := Aside0.mk (Kd.R_elder' (by (with_reducible repeat (first | apply Kd.R_alloc | apply Kd.R_drewN | apply Kd.R_drew)); exact HO_7.out) (Kd.R_base ho0) hb); have n1_ := Aside0.mk (Kd.R_elder' (by (with_reducible repeat (first | apply Kd.R_alloc | apply Kd.R_drewN | apply Kd.R_drew)); exact HO226.out) (Kd.R_base ho0) hb); have n2_ := Aside0.mk (Kd.R_lower (Kd.R_new' (Kd.R_new' ho0 (Kd.R_lt (by (with_reducible repeat (first | apply Kd.R_alloc | apply Kd.R_drewN | apply Kd.R_drew)); exact HO_7.out))) (Kd.R_lt (by (with_reducible repeat (first | apply Kd.R_alloc | apply Kd.R_drewN | apply Kd.R_drew)); exact HO226.out))) (below_size (by repeat (first | (with_reducible first | exact HB.out | apply below_alloc | apply pw_below_drewN | apply below_drew1) | exact HB.out)))); have n3_ := Aside0.mk (below_step (by repeat (first | (with_reducible first | exact HB.out | apply below_alloc | apply pw_below_drewN | apply below_drew1) | exact HB.out)) hb); clear HO_7; clear HO226; clear HB; have HO_7 := n0_; have HO226 := n1_; have HO230 := n2_; have HB := n3_; clear n0_ n1_ n2_ n3_; (try clear hb); (try clear hb2); (try clear hk); (try clear hi); (try clear ho0)))
                    go_ret
                    exact ⟨by first | rfl | (simp [errW_none, errW_some] <;> rfl) | (simp [*, errW_none, errW_some] <;> rfl), by repeat (first | (with_reducible first | exact HB.out | apply below_alloc | apply pw_below_drewN | apply below_drew1) | exact HB.out)⟩
                · rw [if_neg c28] at H
                  exact absurd H (by simp)
              · rw [if_neg c27] at H
                have c27b0 : (t219 == 0) = false := beq_eq_false_iff_ne.mpr c27
                have c27b1 : (t219 != 0) = true := bne_iff_ne.mpr c27
                obtain rfl := Option.some.inj H
                go_wp2
                go_ret
                exact ⟨by first | rfl | (simp [errW_none, errW_some] <;> rfl) | (simp [*, errW_none, errW_some] <;> rfl), by repeat (first | (with_reducible first | exact HB.out | apply below_alloc | apply pw_below_drewN | apply below_drew1) | exact HB.out)⟩
    · rw [if_neg c6] at H
      have c6b0 : (t215 == 0) = false := beq_eq_false_iff_ne.mpr c6
      have c6b1 : (t215 != 0) = true := bne_iff_ne.mpr c6
      obtain rfl := Option.some.inj H
      go_enter Try.func6, Try.ntmps6
      go_wp2_with (first | ((with_reducible refine gate_callee (f := 8) rfl ?_); refine goesL_ (some 11) rfl rfl Try.func8 (by kernel_rfl) rfl #[] rfl (by (try simp only [List.map_toArray, List.map_cons, List.map_nil]); first | done | rfl | (simp only [List.length_drop, List.length_take]; rfl)) ?_; (with_reducible refine (lombardlaw17_alive.calls k  true _ A3.out).mono ?_); rintro e w40 ⟨rfl, hb⟩; refine ⟨_, rfl, ?_⟩; have n0_ := Aside0.mk (below_step (by repeat (first | (with_reducible first | exact HB.out | apply below_alloc | apply pw_below_drewN | apply below_drew1) | exact HB.out)) hb); clear HB; have HB := n0_; clear n0_; (try clear hb); (try clear hb2); (try clear hk); (try clear hi)) | ((with_reducible refine gate_callee (f := 9) rfl ?_); refine goesL_ (some 16) rfl rfl Try.func9 (by kernel_rfl) rfl #[.int .i64 a0, .int .i64 a1] rfl (by (try simp only [List.map_toArray, List.map_cons, List.map_nil]); first | done | rfl | (simp only [List.length_drop, List.length_take]; rfl)) ?_; (with_reducible refine (chart_Post.calls a0 a1 t214 t215 _ A5.out).mono ?_); rintro e w41 ⟨v216, rfl, ho0, hb⟩; refine ⟨_, rfl, ?_⟩; have n0_ := Aside0.mk (Kd.R_lower ho0 (below_size (by repeat (first | (with_reducible first | exact HB.out | apply below_alloc | apply pw_below_drewN | apply below_drew1) | exact HB.out)))); have n1_ := Aside0.mk (below_step (by repeat (first | (with_reducible first | exact HB.out | apply below_alloc | apply pw_below_drewN | apply below_drew1) | exact HB.out)) hb); clear HB; have HO217 := n0_; have HB := n1_; clear n0_ n1_; (try clear hb); (try clear hb2); (try clear hk); (try clear hi); (try clear ho0); obtain ⟨Ao42, co42, eo42⟩ := Kd.R_slice HO217.out; subst eo42))
      go_ret
      exact ⟨by first | rfl | (simp [errW_none, errW_some] <;> rfl) | (simp [*, errW_none, errW_some] <;> rfl), by repeat (first | (with_reducible first | exact HB.out | apply below_alloc | apply pw_below_drewN | apply below_drew1) | exact HB.out)⟩
  · replace c4 := Bool.eq_false_iff.mpr c4
    subst c4
    have H1 : (some false) = some r := by rw [if_neg (show ¬ (false = true) by decide)] at H; exact H
    clear H
    have H := H1
    clear H1
    obtain rfl := Option.some.inj H
    go_enter Try.func6, Try.ntmps6
    go_wp2_with (first | ((with_reducible refine gate_callee (f := 8) rfl ?_); refine goesL_ (some 11) rfl rfl Try.func8 (by kernel_rfl) rfl #[] rfl (by (try simp only [List.map_toArray, List.map_cons, List.map_nil]); first | done | rfl | (simp only [List.length_drop, List.length_take]; rfl)) ?_; (with_reducible refine (lombardlaw17_alive.calls k  false _ A3.out).mono ?_); rintro e w43 ⟨rfl, hb⟩; refine ⟨_, rfl, ?_⟩; have n0_ := Aside0.mk (below_step (by repeat (first | (with_reducible first | exact HB.out | apply below_alloc | apply pw_below_drewN | apply below_drew1) | exact HB.out)) hb); clear HB; have HB := n0_; clear n0_; (try clear hb); (try clear hb2); (try clear hk); (try clear hi)))
    go_ret
    exact ⟨by first | rfl | (simp [errW_none, errW_some] <;> rfl) | (simp [*, errW_none, errW_some] <;> rfl), by repeat (first | (with_reducible first | exact HB.out | apply below_alloc | apply pw_below_drewN | apply below_drew1) | exact HB.out)⟩

/-- THE ONE PURE STATEMENT of lombardlaw17_ChartTwice: yours. -/
def lombardlaw17_ChartTwice.Pure : Prop := ∀ (a0 : Int) (a1 : Int), (Lit.int .i64 a0).wf = true → (Lit.int .i64 a1).wf = true → ∃ k, lombardlaw17_ChartTwice.f k a0 a1 = some true
theorem lombardlaw17_ChartTwice.walk (P : lombardlaw17_ChartTwice.Pure) (a0 : Int) (a1 : Int) (w : World) (w0 : (Lit.int .i64 a0).wf = true) (w1 : (Lit.int .i64 a1).wf = true) :
    Calls Try.prog 6 #[.int .i64 a0, .int .i64 a1] w fun e w' => e = .returned (.bool true) ∧ Below w.heap.size w w' := by
  obtain ⟨k, h⟩ := P a0 a1 w0 w1
  refine (lombardlaw17_ChartTwice.calls k a0 a1 true w h).mono ?_
  rintro e w' ⟨rfl, hd⟩
  exact ⟨rfl, hd⟩

end Go.Proofs.Ytmafmbcgjeecjaa.Print
