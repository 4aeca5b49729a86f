-- written by this session's program wip/hybrid.py over the kit's printer, and by hand. Not trusted: Lean checks it.
import Derived.Test.YtpcllhhbaockfaaPrint0
import Derived.Test.YtpcllhhbaockfaaPrint7
namespace Go.Proofs.Ytpcllhhbaockfaa.Print
open Go.RowKit Go.Proofs.YtpcllhhbaockfaaW.PrintWords Go.Proofs.YtpcllhhbaockfaaW.PrintLast Go.Proofs.YtpcllhhbaockfaaW.PrintMore
attribute [local go_sem] max2_int min2_int max_two min_two max_three min_three max_four min_four   -- for this text's walks alone
set_option linter.unusedVariables false
set_option linter.unusedSimpArgs false

/-! ### allow_Row_close: function 35 -/
def allow_Row_close.f (a0_0 a0_1 a0_2 a0_3 a0_4 a0_5 : Int) : Option (Int × Int) :=
  (money_Add.f a0_0 a0_1).bind fun t1 => if t1.2 = 0 then (money_Add.f t1.1 a0_3).bind fun t2 => if t2.2 = 0 then (money_Sub.f t2.1 a0_2).bind fun t3 => if t3.2 = 0 then
    (money_Sub.f t3.1 a0_4).bind fun t4 => if t4.2 = 0 then some (t4.1, 0) else some (0, t4.2) else some (0, t3.2) else some (0, t2.2) else some (0, t1.2)
set_option maxHeartbeats 4000000 in
set_option maxRecDepth 100000 in
theorem allow_Row_close.calls (a0_0 : Int) (a0_1 : Int) (a0_2 : Int) (a0_3 : Int) (a0_4 : Int) (a0_5 : Int) (r1 : Int) (r2 : Int) (w : World) (h : allow_Row_close.f a0_0 a0_1 a0_2 a0_3 a0_4 a0_5 = some (r1, r2)) :
    Calls Try.prog 35 #[.agg #[.int .i64 a0_0, .int .i64 a0_1, .int .i64 a0_2, .int .i64 a0_3, .int .i64 a0_4, .int .i64 a0_5]] w fun e w' => e = .returned (.tuple #[.int .i64 r1, .int .i64 r2]) ∧ Below w.heap.size w w' := by
  unfold allow_Row_close.f at h
  obtain ⟨⟨n1, e1⟩, h1, H1⟩ := Option.bind_eq_some_iff.mp h
  clear h
  have H1C := Aside0.mk h1
  clear h1
  have hi0 : ∀ w, (Instr.index 102 (.agg #[.func (.func 18) #[] #[], .int .i64 a0_1, .func (.func 18) #[] #[], .int .i64 a0_3, .func (.func 19) #[] #[], .int .i64 a0_2, .func (.func 19) #[] #[], .int .i64 a0_4]) (.int .i64 0)).run Try.prog w = .ok (.agg #[.func (.func 18) #[] #[], .int .i64 a0_1]) w := fun _ => by kernel_rfl
  have hi1 : ∀ w, (Instr.index 102 (.agg #[.func (.func 18) #[] #[], .int .i64 a0_1, .func (.func 18) #[] #[], .int .i64 a0_3, .func (.func 19) #[] #[], .int .i64 a0_2, .func (.func 19) #[] #[], .int .i64 a0_4]) (.int .i64 1)).run Try.prog w = .ok (.agg #[.func (.func 18) #[] #[], .int .i64 a0_3]) w := fun _ => by kernel_rfl
  have hi2 : ∀ w, (Instr.index 102 (.agg #[.func (.func 18) #[] #[], .int .i64 a0_1, .func (.func 18) #[] #[], .int .i64 a0_3, .func (.func 19) #[] #[], .int .i64 a0_2, .func (.func 19) #[] #[], .int .i64 a0_4]) (.int .i64 2)).run Try.prog w = .ok (.agg #[.func (.func 19) #[] #[], .int .i64 a0_2]) w := fun _ => by kernel_rfl
  have hi3 : ∀ w, (Instr.index 102 (.agg #[.func (.func 18) #[] #[], .int .i64 a0_1, .func (.func 18) #[] #[], .int .i64 a0_3, .func (.func 19) #[] #[], .int .i64 a0_2, .func (.func 19) #[] #[], .int .i64 a0_4]) (.int .i64 3)).run Try.prog w = .ok (.agg #[.func (.func 19) #[] #[], .int .i64 a0_4]) w := fun _ => by kernel_rfl
  have hcell : ∀ {W W' : World} {g : Nat}, W.heap[g]? = some (.cells #[.int .i64 a0_0, .int .i64 a0_1, .int .i64 a0_2, .int .i64 a0_3, .int .i64 a0_4, .int .i64 a0_5] 38 (0, 0)) → Below W.heap.size W W' → W'.heap[g]? = some (.cells #[.int .i64 a0_0, .int .i64 a0_1, .int .i64 a0_2, .int .i64 a0_3, .int .i64 a0_4, .int .i64 a0_5] 38 (0, 0)) := fun h hb => blk_below h hb
  go_enter Try.func35, Try.ntmps35
  go_wp2
  refine wp_loop_rounds 5 ?_
  rw [rounds_succ]
  go_wp2_with fail
  with_reducible refine (money_Add.calls a0_0 a0_1 n1 e1 _ H1C.out).mono ?_
  rintro e w1 ⟨rfl, hd⟩
  have HB1 := Aside0.mk (below_step (w := w) (by repeat (first | exact Below.refl _ _ | apply below_alloc | refine below_set ?_ (by first | omega | (simp; omega)))) hd.below)
  clear hd
  by_cases c1 : e1 = 0
  · subst c1
    rw [if_pos rfl] at H1
    obtain ⟨⟨n2, e2⟩, h2, H2⟩ := Option.bind_eq_some_iff.mp H1
    have H2C := Aside0.mk h2
    clear h2 H1
    go_wp2_with fail
    rw [rounds_succ]
    go_wp2_with fail
    with_reducible refine (money_Add.calls n1 a0_3 n2 e2 _ H2C.out).mono ?_
    rintro e w2 ⟨rfl, hd⟩
    have HB2 := Aside0.mk (below_step (w := w) (by repeat (first | exact HB1.out | apply below_alloc | refine below_set ?_ (by first | omega | (have := HB1.out.size; simp; omega)))) hd.below)
    clear hd
    by_cases c2 : e2 = 0
    · subst c2
      rw [if_pos rfl] at H2
      obtain ⟨⟨n3, e3⟩, h3, H3⟩ := Option.bind_eq_some_iff.mp H2
      have H3C := Aside0.mk h3
      clear h3 H2
      go_wp2_with fail
      rw [rounds_succ]
      go_wp2_with fail
      with_reducible refine (money_Sub.calls n2 a0_2 n3 e3 _ H3C.out).mono ?_
      rintro e w3 ⟨rfl, hd⟩
      have HB3 := Aside0.mk (below_step (w := w) (by repeat (first | exact HB2.out | apply below_alloc | refine below_set ?_ (by first | omega | (have := HB2.out.size; simp; omega)))) hd.below)
      clear hd
      by_cases c3 : e3 = 0
      · subst c3
        rw [if_pos rfl] at H3
        obtain ⟨⟨n4, e4⟩, h4, H4⟩ := Option.bind_eq_some_iff.mp H3
        have H4C := Aside0.mk h4
        clear h4 H3
        go_wp2_with fail
        rw [rounds_succ]
        go_wp2_with fail
        with_reducible refine (money_Sub.calls n3 a0_4 n4 e4 _ H4C.out).mono ?_
        rintro e w4 ⟨rfl, hd⟩
        have HB4 := Aside0.mk (below_step (w := w) (by repeat (first | exact HB3.out | apply below_alloc | refine below_set ?_ (by first | omega | (have := HB3.out.size; simp; omega)))) hd.below)
        clear hd
        by_cases c4 : e4 = 0
        · subst c4
          rw [if_pos rfl] at H4
          simp only [Option.some.injEq, Prod.mk.injEq] at H4
          obtain ⟨rfl, rfl⟩ := H4
          go_wp2_with fail
          rw [rounds_succ]
          go_wp2_with fail
          go_ret2
          exact ⟨rfl, HB4.out⟩
        · have cb : (e4 == 0) = false := by simpa using c4
          rw [if_neg c4] at H4
          simp only [Option.some.injEq, Prod.mk.injEq] at H4
          obtain ⟨rfl, rfl⟩ := H4
          clear c4
          go_wp2_with fail
          go_ret2
          exact ⟨rfl, HB4.out⟩
      · have cb : (e3 == 0) = false := by simpa using c3
        rw [if_neg c3] at H3
        simp only [Option.some.injEq, Prod.mk.injEq] at H3
        obtain ⟨rfl, rfl⟩ := H3
        clear c3
        go_wp2_with fail
        go_ret2
        exact ⟨rfl, HB3.out⟩
    · have cb : (e2 == 0) = false := by simpa using c2
      rw [if_neg c2] at H2
      simp only [Option.some.injEq, Prod.mk.injEq] at H2
      obtain ⟨rfl, rfl⟩ := H2
      clear c2
      go_wp2_with fail
      go_ret2
      exact ⟨rfl, HB2.out⟩
  · have cb : (e1 == 0) = false := by simpa using c1
    rw [if_neg c1] at H1
    simp only [Option.some.injEq, Prod.mk.injEq] at H1
    obtain ⟨rfl, rfl⟩ := H1
    clear c1
    go_wp2_with fail
    go_ret2
    exact ⟨rfl, HB1.out⟩


end Go.Proofs.Ytpcllhhbaockfaa.Print
