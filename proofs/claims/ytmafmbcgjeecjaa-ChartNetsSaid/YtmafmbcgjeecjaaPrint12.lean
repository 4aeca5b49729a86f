-- written by this session's program wip/hybrid.py over the kit's printer, and by hand. Not trusted: Lean checks it.
import Derived.Test.YtmafmbcgjeecjaaPrint0
namespace Go.Proofs.Ytmafmbcgjeecjaa.Print
open Go.RowKit Go.Proofs.YtmafmbcgjeecjaaW.PrintWords Go.Proofs.YtmafmbcgjeecjaaW.PrintLast Go.Proofs.YtmafmbcgjeecjaaW.PrintMore
attribute [local go_sem] max2_int min2_int max_two min_two max_three min_three max_four min_four   -- for this text's walks alone
set_option linter.unusedVariables false
set_option linter.unusedSimpArgs false

/-! ### lombardref17_Name: function 14 -/
def lombardref17_Name.g (n : Int) : ByteArray := if n = 1 then (⟨#[99, 97, 115, 104]⟩ : ByteArray) else if n = 2 then (⟨#[108, 111, 97, 110, 115]⟩ : ByteArray) else if n = 3 then (⟨#[97, 108, 108, 111, 119, 97, 110, 99, 101]⟩ : ByteArray) else if n = 4 then (⟨#[105, 110, 99, 111, 109, 101]⟩ : ByteArray) else if n = 5 then (⟨#[101, 102, 102, 101, 99, 116, 115]⟩ : ByteArray) else if n = 6 then (⟨#[105, 109, 112, 97, 105, 114, 101, 100]⟩ : ByteArray) else if n = 7 then (⟨#[114, 101, 99, 111, 118, 101, 114, 101, 100]⟩ : ByteArray) else (⟨#[]⟩ : ByteArray)
def lombardref17_Name.f (a0 : Int) : Option (ByteArray) := some (lombardref17_Name.g a0)
set_option maxHeartbeats 1000000 in
set_option maxRecDepth 100000 in
theorem lombardref17_Name.w1 (w : World) : Calls Try.prog 14 #[.int .i64 1] w fun e w' => e = .returned (.string (⟨#[99, 97, 115, 104]⟩ : ByteArray)) ∧ Below w.heap.size w w' := by
  have hix : ∀ (x0 x1 x2 x3 x4 x5 x6 : Value) (W : World), (Instr.index 63 (.agg #[x0, x1, x2, x3, x4, x5, x6]) (.int .i64 0)).run Try.prog W = .ok x0 W := fun _ _ _ _ _ _ _ _ => by kernel_rfl
  go_enter Try.func14, Try.ntmps14
  go_wp2
  go_ret
  exact ⟨rfl, by repeat (first | exact Below.refl _ _ | apply below_alloc | apply pw_below_drewN | apply below_drew1 | refine below_set ?_ (by first | (simp; done) | (simp; omega)))⟩
set_option maxHeartbeats 1000000 in
set_option maxRecDepth 100000 in
theorem lombardref17_Name.w2 (w : World) : Calls Try.prog 14 #[.int .i64 2] w fun e w' => e = .returned (.string (⟨#[108, 111, 97, 110, 115]⟩ : ByteArray)) ∧ Below w.heap.size w w' := by
  have hix : ∀ (x0 x1 x2 x3 x4 x5 x6 : Value) (W : World), (Instr.index 63 (.agg #[x0, x1, x2, x3, x4, x5, x6]) (.int .i64 1)).run Try.prog W = .ok x1 W := fun _ _ _ _ _ _ _ _ => by kernel_rfl
  go_enter Try.func14, Try.ntmps14
  go_wp2
  go_ret
  exact ⟨rfl, by repeat (first | exact Below.refl _ _ | apply below_alloc | apply pw_below_drewN | apply below_drew1 | refine below_set ?_ (by first | (simp; done) | (simp; omega)))⟩
set_option maxHeartbeats 1000000 in
set_option maxRecDepth 100000 in
theorem lombardref17_Name.w3 (w : World) : Calls Try.prog 14 #[.int .i64 3] w fun e w' => e = .returned (.string (⟨#[97, 108, 108, 111, 119, 97, 110, 99, 101]⟩ : ByteArray)) ∧ Below w.heap.size w w' := by
  have hix : ∀ (x0 x1 x2 x3 x4 x5 x6 : Value) (W : World), (Instr.index 63 (.agg #[x0, x1, x2, x3, x4, x5, x6]) (.int .i64 2)).run Try.prog W = .ok x2 W := fun _ _ _ _ _ _ _ _ => by kernel_rfl
  go_enter Try.func14, Try.ntmps14
  go_wp2
  go_ret
  exact ⟨rfl, by repeat (first | exact Below.refl _ _ | apply below_alloc | apply pw_below_drewN | apply below_drew1 | refine below_set ?_ (by first | (simp; done) | (simp; omega)))⟩
set_option maxHeartbeats 1000000 in
set_option maxRecDepth 100000 in
theorem lombardref17_Name.w4 (w : World) : Calls Try.prog 14 #[.int .i64 4] w fun e w' => e = .returned (.string (⟨#[105, 110, 99, 111, 109, 101]⟩ : ByteArray)) ∧ Below w.heap.size w w' := by
  have hix : ∀ (x0 x1 x2 x3 x4 x5 x6 : Value) (W : World), (Instr.index 63 (.agg #[x0, x1, x2, x3, x4, x5, x6]) (.int .i64 3)).run Try.prog W = .ok x3 W := fun _ _ _ _ _ _ _ _ => by kernel_rfl
  go_enter Try.func14, Try.ntmps14
  go_wp2
  go_ret
  exact ⟨rfl, by repeat (first | exact Below.refl _ _ | apply below_alloc | apply pw_below_drewN | apply below_drew1 | refine below_set ?_ (by first | (simp; done) | (simp; omega)))⟩
set_option maxHeartbeats 1000000 in
set_option maxRecDepth 100000 in
theorem lombardref17_Name.w5 (w : World) : Calls Try.prog 14 #[.int .i64 5] w fun e w' => e = .returned (.string (⟨#[101, 102, 102, 101, 99, 116, 115]⟩ : ByteArray)) ∧ Below w.heap.size w w' := by
  have hix : ∀ (x0 x1 x2 x3 x4 x5 x6 : Value) (W : World), (Instr.index 63 (.agg #[x0, x1, x2, x3, x4, x5, x6]) (.int .i64 4)).run Try.prog W = .ok x4 W := fun _ _ _ _ _ _ _ _ => by kernel_rfl
  go_enter Try.func14, Try.ntmps14
  go_wp2
  go_ret
  exact ⟨rfl, by repeat (first | exact Below.refl _ _ | apply below_alloc | apply pw_below_drewN | apply below_drew1 | refine below_set ?_ (by first | (simp; done) | (simp; omega)))⟩
set_option maxHeartbeats 1000000 in
set_option maxRecDepth 100000 in
theorem lombardref17_Name.w6 (w : World) : Calls Try.prog 14 #[.int .i64 6] w fun e w' => e = .returned (.string (⟨#[105, 109, 112, 97, 105, 114, 101, 100]⟩ : ByteArray)) ∧ Below w.heap.size w w' := by
  have hix : ∀ (x0 x1 x2 x3 x4 x5 x6 : Value) (W : World), (Instr.index 63 (.agg #[x0, x1, x2, x3, x4, x5, x6]) (.int .i64 5)).run Try.prog W = .ok x5 W := fun _ _ _ _ _ _ _ _ => by kernel_rfl
  go_enter Try.func14, Try.ntmps14
  go_wp2
  go_ret
  exact ⟨rfl, by repeat (first | exact Below.refl _ _ | apply below_alloc | apply pw_below_drewN | apply below_drew1 | refine below_set ?_ (by first | (simp; done) | (simp; omega)))⟩
set_option maxHeartbeats 1000000 in
set_option maxRecDepth 100000 in
theorem lombardref17_Name.w7 (w : World) : Calls Try.prog 14 #[.int .i64 7] w fun e w' => e = .returned (.string (⟨#[114, 101, 99, 111, 118, 101, 114, 101, 100]⟩ : ByteArray)) ∧ Below w.heap.size w w' := by
  have hix : ∀ (x0 x1 x2 x3 x4 x5 x6 : Value) (W : World), (Instr.index 63 (.agg #[x0, x1, x2, x3, x4, x5, x6]) (.int .i64 6)).run Try.prog W = .ok x6 W := fun _ _ _ _ _ _ _ _ => by kernel_rfl
  go_enter Try.func14, Try.ntmps14
  go_wp2
  go_ret
  exact ⟨rfl, by repeat (first | exact Below.refl _ _ | apply below_alloc | apply pw_below_drewN | apply below_drew1 | refine below_set ?_ (by first | (simp; done) | (simp; omega)))⟩
theorem lombardref17_Name.lo (a0 : Int) (w : World) (hl : a0 < 1) : Calls Try.prog 14 #[.int .i64 a0] w fun e w' => e = .returned (.string (⟨#[]⟩ : ByteArray)) ∧ Below w.heap.size w w' := by
  go_enter Try.func14, Try.ntmps14
  go_wp2
  go_ret
  exact ⟨rfl, by repeat (first | exact Below.refl _ _ | apply below_alloc | apply pw_below_drewN | apply below_drew1 | refine below_set ?_ (by first | (simp; done) | (simp; omega)))⟩
theorem lombardref17_Name.hi (a0 : Int) (w : World) (hl : 7 < a0) : Calls Try.prog 14 #[.int .i64 a0] w fun e w' => e = .returned (.string (⟨#[]⟩ : ByteArray)) ∧ Below w.heap.size w w' := by
  have hl1 : ¬ a0 < 1 := by omega
  go_enter Try.func14, Try.ntmps14
  go_wp2
  go_ret
  exact ⟨rfl, by repeat (first | exact Below.refl _ _ | apply below_alloc | apply pw_below_drewN | apply below_drew1 | refine below_set ?_ (by first | (simp; done) | (simp; omega)))⟩
theorem lombardref17_Name.calls (a0 : Int) (r : ByteArray) (w : World) (h : lombardref17_Name.f a0 = some r) :
    Calls Try.prog 14 #[.int .i64 a0] w fun e w' => e = .returned (.string r) ∧ Below w.heap.size w w' := by
  unfold lombardref17_Name.f at h
  obtain rfl := Option.some.inj h
  unfold lombardref17_Name.g
  by_cases c1 : a0 = 1
  · subst c1; exact lombardref17_Name.w1 w
  by_cases c2 : a0 = 2
  · subst c2; exact lombardref17_Name.w2 w
  by_cases c3 : a0 = 3
  · subst c3; exact lombardref17_Name.w3 w
  by_cases c4 : a0 = 4
  · subst c4; exact lombardref17_Name.w4 w
  by_cases c5 : a0 = 5
  · subst c5; exact lombardref17_Name.w5 w
  by_cases c6 : a0 = 6
  · subst c6; exact lombardref17_Name.w6 w
  by_cases c7 : a0 = 7
  · subst c7; exact lombardref17_Name.w7 w
  rw [if_neg c1, if_neg c2, if_neg c3, if_neg c4, if_neg c5, if_neg c6, if_neg c7]
  by_cases c : a0 < 1
  · exact lombardref17_Name.lo a0 w c
  · exact lombardref17_Name.hi a0 w (by omega)


end Go.Proofs.Ytmafmbcgjeecjaa.Print
