-- written by this session's program wip/hybrid.py over the kit's printer, and by hand. Not trusted: Lean checks it.
import Derived.Test.YtpcllhhbaockfaaPrint0
namespace Go.Proofs.Ytpcllhhbaockfaa.Print
open Go.RowKit Go.Proofs.YtpcllhhbaockfaaW.PrintWords Go.Proofs.YtpcllhhbaockfaaW.PrintLast Go.Proofs.YtpcllhhbaockfaaW.PrintMore
attribute [local go_sem] max2_int min2_int max_two min_two max_three min_three max_four min_four   -- for this text's walks alone
set_option linter.unusedVariables false
set_option linter.unusedSimpArgs false

/-! ### money_told: function 38 -/
def money_told.f (a0 : Int) (a1 : Bool) : Option (Int × Int) := if a1 = true then (some (a0, 0)) else (some (0, 3))
set_option maxHeartbeats 8000000 in
set_option maxRecDepth 100000 in
theorem money_told.calls (a0 : Int) (a1 : Bool) (r1 : Int) (r2 : Int) (w : World) (h : money_told.f a0 a1 = some (r1, r2)) :
    Calls Try.prog 38 #[.int .i64 a0, .bool a1] w fun e w' => e = .returned (.tuple #[.int .i64 r1, .int .i64 r2]) ∧ Drawn0 w w' := by
  have H : (if a1 = true then (some (a0, 0)) else (some (0, 3))) = some (r1, r2) := h
  clear h
  by_cases c3 : a1 = true
  · subst c3
    have H1 : (some (a0, 0)) = some (r1, r2) := by rw [if_pos rfl] at H; exact H
    clear H
    have H := H1
    clear H1
    simp only [Option.some.injEq, Prod.mk.injEq] at H
    obtain ⟨rfl, rfl⟩ := H
    go_enter Try.func38, Try.ntmps38
    go_wp2
    go_ret2
    exact ⟨by first | rfl | (simp; done) | (simp [*]; done), by repeat (first | exact Drawn0.refl _ | apply Drawn0.step)⟩
  · replace c3 := Bool.eq_false_iff.mpr c3
    subst c3
    have H1 : (some (0, 3)) = some (r1, r2) := by rw [if_neg (show ¬ (false = true) by decide)] at H; exact H
    clear H
    have H := H1
    clear H1
    simp only [Option.some.injEq, Prod.mk.injEq] at H
    obtain ⟨rfl, rfl⟩ := H
    go_enter Try.func38, Try.ntmps38
    go_wp2
    go_ret2
    exact ⟨by first | rfl | (simp; done) | (simp [*]; done), by repeat (first | exact Drawn0.refl _ | apply Drawn0.step)⟩

/-! ### money_sum_int64: function 39 -/
def money_sum_int64.f (a0 : Int) (a1 : Int) : Option (Int × Bool) := if ((decide (a0 < 0)) != (decide (a1 < 0))) = true then (some (wrap64 (a0 + a1), true)) else (some (wrap64 (a0 + a1), ((decide ((wrap64 (a0 + a1)) < 0)) == (decide (a0 < 0)))))
set_option maxHeartbeats 8000000 in
set_option maxRecDepth 100000 in
theorem money_sum_int64.calls (a0 : Int) (a1 : Int) (r1 : Int) (r2 : Bool) (w : World) (h : money_sum_int64.f a0 a1 = some (r1, r2)) :
    Calls Try.prog 39 #[.int .i64 a0, .int .i64 a1] w fun e w' => e = .returned (.tuple #[.int .i64 r1, .bool r2]) ∧ Drawn0 w w' := by
  have H : (if ((decide (a0 < 0)) != (decide (a1 < 0))) = true then (some (wrap64 (a0 + a1), true)) else (some (wrap64 (a0 + a1), ((decide ((wrap64 (a0 + a1)) < 0)) == (decide (a0 < 0)))))) = some (r1, r2) := h
  clear h
  by_cases c3 : ((decide (a0 < 0)) != (decide (a1 < 0))) = true
  · rw [if_pos c3] at H
    have c3b0 : ((decide (a0 < 0)) != (decide (a1 < 0))) = true := c3
    (try (have c3b1 : decide ((decide (a0 < 0)) = (decide (a1 < 0))) = false := by simpa using c3))
    (try (have c3b2 : ((decide (a0 < 0)) == (decide (a1 < 0))) = false := by simpa using c3))
    (try (have c3b3 : ¬ ((decide (a0 < 0)) = (decide (a1 < 0))) := by simpa using c3))
    clear c3
    simp only [Option.some.injEq, Prod.mk.injEq] at H
    obtain ⟨rfl, rfl⟩ := H
    go_enter Try.func39, Try.ntmps39
    go_wp2
    go_ret2
    exact ⟨by first | rfl | (simp; done) | (simp [*]; done), by repeat (first | exact Drawn0.refl _ | apply Drawn0.step)⟩
  · rw [if_neg c3] at H
    have c3b0 : ((decide (a0 < 0)) != (decide (a1 < 0))) = false := by simpa using c3
    (try (have c3b1 : decide ((decide (a0 < 0)) = (decide (a1 < 0))) = true := by simpa using c3))
    (try (have c3b2 : ((decide (a0 < 0)) == (decide (a1 < 0))) = true := by simpa using c3))
    clear c3
    simp only [Option.some.injEq, Prod.mk.injEq] at H
    obtain ⟨rfl, rfl⟩ := H
    go_enter Try.func39, Try.ntmps39
    go_wp2
    go_ret2
    exact ⟨by first | rfl | (simp; done) | (simp [*]; done), by repeat (first | exact Drawn0.refl _ | apply Drawn0.step)⟩

/-! ### money_Add: function 18 -/
def money_Add.f (a0 : Int) (a1 : Int) : Option (Int × Int) := (money_sum_int64.f a0 a1).bind fun bt103 => ((money_told.f bt103.1 bt103.2).bind fun bt105 => (some (bt105.1, bt105.2)))
set_option maxHeartbeats 8000000 in
set_option maxRecDepth 100000 in
theorem money_Add.calls (a0 : Int) (a1 : Int) (r1 : Int) (r2 : Int) (w : World) (h : money_Add.f a0 a1 = some (r1, r2)) :
    Calls Try.prog 18 #[.int .i64 a0, .int .i64 a1] w fun e w' => e = .returned (.tuple #[.int .i64 r1, .int .i64 r2]) ∧ Drawn0 w w' := by
  have H : ((money_sum_int64.f a0 a1).bind fun bt103 => ((money_told.f bt103.1 bt103.2).bind fun bt105 => (some (bt105.1, bt105.2)))) = some (r1, r2) := h
  clear h
  replace H := Option.bind_eq_some_iff.mp H
  obtain ⟨⟨t103, t104⟩, A30, H⟩ := H
  replace H : ((money_told.f t103 t104).bind fun bt105 => (some (bt105.1, bt105.2))) = some (r1, r2) := H
  have A3 := Aside0.mk A30
  clear A30
  replace H := Option.bind_eq_some_iff.mp H
  obtain ⟨⟨t105, t106⟩, A40, H⟩ := H
  replace H : (some (t105, t106)) = some (r1, r2) := H
  have A4 := Aside0.mk A40
  clear A40
  simp only [Option.some.injEq, Prod.mk.injEq] at H
  obtain ⟨rfl, rfl⟩ := H
  go_enter Try.func18, Try.ntmps18
  go_wp2_with (first | ((with_reducible refine gate_callee (f := 39) rfl ?_); refine goesL_ (some 8) rfl rfl Try.func39 (by kernel_rfl) rfl #[.int .i64 a0, .int .i64 a1] rfl (by (try simp only [List.map_toArray, List.map_cons, List.map_nil]); first | done | rfl | (simp only [List.length_drop, List.length_take]; rfl)) ?_; (with_reducible refine (money_sum_int64.calls a0 a1 t103 t104 _ A3.out).mono ?_); rintro e w' ⟨rfl, ⟨nd, rfl⟩⟩; refine ⟨_, rfl, ?_⟩) | ((with_reducible refine gate_callee (f := 38) rfl ?_); refine goesL_ (some 11) rfl rfl Try.func38 (by kernel_rfl) rfl #[.int .i64 t103, .bool t104] rfl (by (try simp only [List.map_toArray, List.map_cons, List.map_nil]); first | done | rfl | (simp only [List.length_drop, List.length_take]; rfl)) ?_; (with_reducible refine (money_told.calls t103 t104 t105 t106 _ A4.out).mono ?_); rintro e w' ⟨rfl, ⟨nd, rfl⟩⟩; refine ⟨_, rfl, ?_⟩))
  go_ret2
  exact ⟨by first | rfl | (simp; done) | (simp [*]; done), by repeat (first | exact Drawn0.refl _ | apply Drawn0.step)⟩

/-! ### money_Sub: function 19 -/
def money_Sub.f (a0 : Int) (a1 : Int) : Option (Int × Int) := if ((decide (a0 < 0)) == (decide (a1 < 0))) = true then ((money_told.f (wrap64 (a0 - a1)) true).bind fun bt107 => (some (bt107.1, bt107.2))) else ((money_told.f (wrap64 (a0 - a1)) ((decide ((wrap64 (a0 - a1)) < 0)) == (decide (a0 < 0)))).bind fun bt109 => (some (bt109.1, bt109.2)))
set_option maxHeartbeats 8000000 in
set_option maxRecDepth 100000 in
theorem money_Sub.calls (a0 : Int) (a1 : Int) (r1 : Int) (r2 : Int) (w : World) (h : money_Sub.f a0 a1 = some (r1, r2)) :
    Calls Try.prog 19 #[.int .i64 a0, .int .i64 a1] w fun e w' => e = .returned (.tuple #[.int .i64 r1, .int .i64 r2]) ∧ Drawn0 w w' := by
  have H : (if ((decide (a0 < 0)) == (decide (a1 < 0))) = true then ((money_told.f (wrap64 (a0 - a1)) true).bind fun bt107 => (some (bt107.1, bt107.2))) else ((money_told.f (wrap64 (a0 - a1)) ((decide ((wrap64 (a0 - a1)) < 0)) == (decide (a0 < 0)))).bind fun bt109 => (some (bt109.1, bt109.2)))) = some (r1, r2) := h
  clear h
  by_cases c3 : ((decide (a0 < 0)) == (decide (a1 < 0))) = true
  · rw [if_pos c3] at H
    have c3b0 : ((decide (a0 < 0)) == (decide (a1 < 0))) = true := c3
    (try (have c3b1 : decide ((decide (a0 < 0)) = (decide (a1 < 0))) = true := by simpa using c3))
    (try (have c3b2 : ((decide (a0 < 0)) == (decide (a1 < 0))) = true := by simpa using c3))
    clear c3
    replace H := Option.bind_eq_some_iff.mp H
    obtain ⟨⟨t107, t108⟩, A40, H⟩ := H
    replace H : (some (t107, t108)) = some (r1, r2) := H
    have A4 := Aside0.mk A40
    clear A40
    simp only [Option.some.injEq, Prod.mk.injEq] at H
    obtain ⟨rfl, rfl⟩ := H
    go_enter Try.func19, Try.ntmps19
    go_wp2_with (first | ((with_reducible refine gate_callee (f := 38) rfl ?_); refine goesL_ (some 23) rfl rfl Try.func38 (by kernel_rfl) rfl #[.int .i64 (wrap64 (a0 - a1)), .bool true] rfl (by (try simp only [List.map_toArray, List.map_cons, List.map_nil]); first | done | rfl | (simp only [List.length_drop, List.length_take]; rfl)) ?_; (with_reducible refine (money_told.calls (wrap64 (a0 - a1)) true t107 t108 _ A4.out).mono ?_); rintro e w' ⟨rfl, ⟨nd, rfl⟩⟩; refine ⟨_, rfl, ?_⟩))
    go_ret2
    exact ⟨by first | rfl | (simp; done) | (simp [*]; done), by repeat (first | exact Drawn0.refl _ | apply Drawn0.step)⟩
  · rw [if_neg c3] at H
    have c3b0 : ((decide (a0 < 0)) == (decide (a1 < 0))) = false := by simpa using c3
    (try (have c3b1 : decide ((decide (a0 < 0)) = (decide (a1 < 0))) = false := by simpa using c3))
    (try (have c3b2 : ((decide (a0 < 0)) == (decide (a1 < 0))) = false := by simpa using c3))
    (try (have c3b3 : ¬ ((decide (a0 < 0)) = (decide (a1 < 0))) := by simpa using c3))
    clear c3
    replace H := Option.bind_eq_some_iff.mp H
    obtain ⟨⟨t109, t110⟩, A50, H⟩ := H
    replace H : (some (t109, t110)) = some (r1, r2) := H
    have A5 := Aside0.mk A50
    clear A50
    simp only [Option.some.injEq, Prod.mk.injEq] at H
    obtain ⟨rfl, rfl⟩ := H
    go_enter Try.func19, Try.ntmps19
    go_wp2_with (first | ((with_reducible refine gate_callee (f := 38) rfl ?_); refine goesL_ (some 23) rfl rfl Try.func38 (by kernel_rfl) rfl #[.int .i64 (wrap64 (a0 - a1)), .bool ((decide ((wrap64 (a0 - a1)) < 0)) == (decide (a0 < 0)))] rfl (by (try simp only [List.map_toArray, List.map_cons, List.map_nil]); first | done | rfl | (simp only [List.length_drop, List.length_take]; rfl)) ?_; (with_reducible refine (money_told.calls (wrap64 (a0 - a1)) ((decide ((wrap64 (a0 - a1)) < 0)) == (decide (a0 < 0))) t109 t110 _ A5.out).mono ?_); rintro e w' ⟨rfl, ⟨nd, rfl⟩⟩; refine ⟨_, rfl, ?_⟩))
    go_ret2
    exact ⟨by first | rfl | (simp; done) | (simp [*]; done), by repeat (first | exact Drawn0.refl _ | apply Drawn0.step)⟩

end Go.Proofs.Ytpcllhhbaockfaa.Print
