-- written by this session's program wip/hybrid.py over the kit's printer, and by hand. Not trusted: Lean checks it.
import Derived.Test.YtmafmbcgjeecjaaPrint0
import Derived.Test.YtmafmbcgjeecjaaPrint2
namespace Go.Proofs.Ytmafmbcgjeecjaa.Print
open Go.RowKit Go.Proofs.YtmafmbcgjeecjaaW.PrintWords Go.Proofs.YtmafmbcgjeecjaaW.PrintLast Go.Proofs.YtmafmbcgjeecjaaW.PrintMore
attribute [local go_sem] max2_int min2_int max_two min_two max_three min_three max_four min_four   -- for this text's walks alone
set_option linter.unusedVariables false
set_option linter.unusedSimpArgs false

/-! ### lombardref17_Post: function 10 -/
def lombardref17_Post.bad (a0 a1 : Int) : Bool := decide (a0 < 1 ∨ 7 < a0 ∨ a1 < -1125899906842624 ∨ 1125899906842624 < a1 ∨ (a1 < 0 ∧ a0 ≠ 2 ∧ a0 ≠ 4 ∧ a0 ≠ 5))
def lombardref17_Post.on (a0 : Int) : Int := if a0 = 1 then 2 else if a0 = 2 then 2 else if a0 = 3 then 1 else if a0 = 4 then 2 else if a0 = 5 then 6 else if a0 = 6 then 3 else 1
def lombardref17_Post.ag (a0 : Int) : Int := if a0 = 1 then 1 else if a0 = 2 then 4 else if a0 = 3 then 2 else if a0 = 4 then 5 else if a0 = 5 then 3 else if a0 = 6 then 2 else 7
def lombardref17_Post.f (a0 : Int) (a1 : Int) : Option ((List (S48)) × Int) := some (if lombardref17_Post.bad a0 a1 = true then ([], 2) else if a1 = 0 then ([], 0) else ([⟨lombardref17_Post.on a0, a1⟩, ⟨lombardref17_Post.ag a0, -a1⟩], 0))
def lombardref17_Post.P (w : World) (r : List S48 × Int) (e : Ending) (w' : World) : Prop := ∃ v0_ : Value, e = .returned (.tuple #[v0_, .int .i64 r.2]) ∧ Kd.R k48 48 w' w.heap.size (fun _ => True) v0_ r.1 ∧ Below w.heap.size w w'

set_option maxHeartbeats 1000000 in
set_option maxRecDepth 100000 in
theorem lombardref17_Post.b1 (a0 : Int) (a1 : Int) (w : World) (h1 : a0 < 1) : Calls Try.prog 10 #[.int .i64 a0, .int .i64 a1] w (lombardref17_Post.P w ([], 2)) := by
  go_enter Try.func10, Try.ntmps10
  go_wp2
  go_ret2
  exact ⟨.slice none 0 0, rfl, Kd.R_nil _ _ _ _ _, by repeat (first | exact Below.refl _ _ | apply below_alloc | apply pw_below_drewN | apply below_drew1 | refine below_set ?_ (by first | (simp; done) | (simp; omega)))⟩

set_option maxHeartbeats 1000000 in
set_option maxRecDepth 100000 in
theorem lombardref17_Post.b2 (a0 : Int) (a1 : Int) (w : World) (h2 : 7 < a0) : Calls Try.prog 10 #[.int .i64 a0, .int .i64 a1] w (lombardref17_Post.P w ([], 2)) := by
  have n1 : ¬ a0 < 1 := by omega
  go_enter Try.func10, Try.ntmps10
  go_wp2
  go_ret2
  exact ⟨.slice none 0 0, rfl, Kd.R_nil _ _ _ _ _, by repeat (first | exact Below.refl _ _ | apply below_alloc | apply pw_below_drewN | apply below_drew1 | refine below_set ?_ (by first | (simp; done) | (simp; omega)))⟩

set_option maxHeartbeats 1000000 in
set_option maxRecDepth 100000 in
theorem lombardref17_Post.b3 (a0 : Int) (a1 : Int) (w : World) (h1 : 1 ≤ a0) (h2 : a0 ≤ 7) (h3 : a1 < -1125899906842624) : Calls Try.prog 10 #[.int .i64 a0, .int .i64 a1] w (lombardref17_Post.P w ([], 2)) := by
  have n1 : ¬ a0 < 1 := by omega
  have n2 : ¬ a0 > 7 := by omega
  go_enter Try.func10, Try.ntmps10
  go_wp2
  go_ret2
  exact ⟨.slice none 0 0, rfl, Kd.R_nil _ _ _ _ _, by repeat (first | exact Below.refl _ _ | apply below_alloc | apply pw_below_drewN | apply below_drew1 | refine below_set ?_ (by first | (simp; done) | (simp; omega)))⟩

set_option maxHeartbeats 1000000 in
set_option maxRecDepth 100000 in
theorem lombardref17_Post.b4 (a0 : Int) (a1 : Int) (w : World) (h1 : 1 ≤ a0) (h2 : a0 ≤ 7) (h3 : 1125899906842624 < a1) : Calls Try.prog 10 #[.int .i64 a0, .int .i64 a1] w (lombardref17_Post.P w ([], 2)) := by
  have n1 : ¬ a0 < 1 := by omega
  have n2 : ¬ a0 > 7 := by omega
  have n3 : ¬ a1 < -1125899906842624 := by omega
  go_enter Try.func10, Try.ntmps10
  go_wp2
  go_ret2
  exact ⟨.slice none 0 0, rfl, Kd.R_nil _ _ _ _ _, by repeat (first | exact Below.refl _ _ | apply below_alloc | apply pw_below_drewN | apply below_drew1 | refine below_set ?_ (by first | (simp; done) | (simp; omega)))⟩

set_option maxHeartbeats 1000000 in
set_option maxRecDepth 100000 in
theorem lombardref17_Post.b5 (a0 : Int) (a1 : Int) (w : World) (h1 : 1 ≤ a0) (h2 : a0 ≤ 7) (h3 : -1125899906842624 ≤ a1) (h4 : a1 < 0) (h5 : a0 ≠ 2) (h6 : a0 ≠ 4) (h7 : a0 ≠ 5) : Calls Try.prog 10 #[.int .i64 a0, .int .i64 a1] w (lombardref17_Post.P w ([], 2)) := by
  have n1 : ¬ a0 < 1 := by omega
  have n2 : ¬ a0 > 7 := by omega
  have n3 : ¬ a1 < -1125899906842624 := by omega
  have n4 : ¬ a1 > 1125899906842624 := by omega
  have q2 : (a0 != 2) = true := by simpa using h5
  have q4 : (a0 != 4) = true := by simpa using h6
  have q5 : (a0 != 5) = true := by simpa using h7
  clear h5 h6 h7
  go_enter Try.func10, Try.ntmps10
  go_wp2
  go_ret2
  exact ⟨.slice none 0 0, rfl, Kd.R_nil _ _ _ _ _, by repeat (first | exact Below.refl _ _ | apply below_alloc | apply pw_below_drewN | apply below_drew1 | refine below_set ?_ (by first | (simp; done) | (simp; omega)))⟩

set_option maxHeartbeats 1000000 in
set_option maxRecDepth 100000 in
theorem lombardref17_Post.z (a0 : Int) (w : World) (h1 : 1 ≤ a0) (h2 : a0 ≤ 7) : Calls Try.prog 10 #[.int .i64 a0, .int .i64 0] w (lombardref17_Post.P w ([], 0)) := by
  have n1 : ¬ a0 < 1 := by omega
  have n2 : ¬ a0 > 7 := by omega
  go_enter Try.func10, Try.ntmps10
  go_wp2
  go_ret2
  exact ⟨.slice none 0 0, rfl, Kd.R_nil _ _ _ _ _, by repeat (first | exact Below.refl _ _ | apply below_alloc | apply pw_below_drewN | apply below_drew1 | refine below_set ?_ (by first | (simp; done) | (simp; omega)))⟩

set_option maxHeartbeats 1000000 in
set_option maxRecDepth 100000 in
theorem lombardref17_Post.g1p (a1 : Int) (w : World) (h1 : 0 < a1) (h2 : a1 ≤ 1125899906842624) : Calls Try.prog 10 #[.int .i64 1, .int .i64 a1] w (lombardref17_Post.P w ([⟨2, a1⟩, ⟨1, -a1⟩], 0)) := by
  have q0 : (a1 == 0) = false := by rw [beq_eq_false_iff_ne]; omega
  have n3 : ¬ a1 < -1125899906842624 := by omega
  have n4 : ¬ a1 > 1125899906842624 := by omega
  have hix : ∀ (W : World), (Instr.index 55 (.agg #[.int .i64 2, .int .i64 1, .int .i64 2, .int .i64 4, .int .i64 1, .int .i64 2, .int .i64 2, .int .i64 5, .int .i64 6, .int .i64 3, .int .i64 3, .int .i64 2, .int .i64 1, .int .i64 7]) (.int .i64 0)).run Try.prog W = .ok (.agg #[.int .i64 2, .int .i64 1]) W := fun _ => by kernel_rfl
  go_enter Try.func10, Try.ntmps10
  go_wp2
  go_ret2
  refine ⟨.slice (some ⟨w.heap.size + 1, 0, none⟩) 2 2, rfl, R_blk (d := k48) (g := w.heap.size + 1) (base := w.heap.size) (xs := [(⟨2, a1⟩ : S48), (⟨1, -a1⟩ : S48)]) (inner := [.int .i64 2, .int .i64 a1, .int .i64 1, .int .i64 (-a1)]) ?_ (by omega) (fun ok => Reps.c2 (k48_mkM _ _ _ _) (Reps.c2 (k48_mkM _ _ _ _) (Reps.none _ _))) (by simp), by repeat (first | exact Below.refl _ _ | apply below_alloc | apply pw_below_drewN | apply below_drew1 | refine below_set ?_ (by first | (simp; done) | (simp; omega)))⟩
  have hh := blk_new (w.alloc (.cells #[.int .i64 2, .int .i64 1] 54)) (.cells #[.int .i64 2, .int .i64 a1, .int .i64 1, .int .i64 (-a1)] 48)
  simpa using hh

set_option maxHeartbeats 1000000 in
set_option maxRecDepth 100000 in
theorem lombardref17_Post.g2p (a1 : Int) (w : World) (h1 : 0 < a1) (h2 : a1 ≤ 1125899906842624) : Calls Try.prog 10 #[.int .i64 2, .int .i64 a1] w (lombardref17_Post.P w ([⟨2, a1⟩, ⟨4, -a1⟩], 0)) := by
  have q0 : (a1 == 0) = false := by rw [beq_eq_false_iff_ne]; omega
  have n3 : ¬ a1 < -1125899906842624 := by omega
  have n4 : ¬ a1 > 1125899906842624 := by omega
  have hix : ∀ (W : World), (Instr.index 55 (.agg #[.int .i64 2, .int .i64 1, .int .i64 2, .int .i64 4, .int .i64 1, .int .i64 2, .int .i64 2, .int .i64 5, .int .i64 6, .int .i64 3, .int .i64 3, .int .i64 2, .int .i64 1, .int .i64 7]) (.int .i64 1)).run Try.prog W = .ok (.agg #[.int .i64 2, .int .i64 4]) W := fun _ => by kernel_rfl
  go_enter Try.func10, Try.ntmps10
  go_wp2
  go_ret2
  refine ⟨.slice (some ⟨w.heap.size + 1, 0, none⟩) 2 2, rfl, R_blk (d := k48) (g := w.heap.size + 1) (base := w.heap.size) (xs := [(⟨2, a1⟩ : S48), (⟨4, -a1⟩ : S48)]) (inner := [.int .i64 2, .int .i64 a1, .int .i64 4, .int .i64 (-a1)]) ?_ (by omega) (fun ok => Reps.c2 (k48_mkM _ _ _ _) (Reps.c2 (k48_mkM _ _ _ _) (Reps.none _ _))) (by simp), by repeat (first | exact Below.refl _ _ | apply below_alloc | apply pw_below_drewN | apply below_drew1 | refine below_set ?_ (by first | (simp; done) | (simp; omega)))⟩
  have hh := blk_new (w.alloc (.cells #[.int .i64 2, .int .i64 4] 54)) (.cells #[.int .i64 2, .int .i64 a1, .int .i64 4, .int .i64 (-a1)] 48)
  simpa using hh

set_option maxHeartbeats 1000000 in
set_option maxRecDepth 100000 in
theorem lombardref17_Post.g2n (a1 : Int) (w : World) (h1 : a1 < 0) (h2 : -1125899906842624 ≤ a1) : Calls Try.prog 10 #[.int .i64 2, .int .i64 a1] w (lombardref17_Post.P w ([⟨2, a1⟩, ⟨4, -a1⟩], 0)) := by
  have q0 : (a1 == 0) = false := by rw [beq_eq_false_iff_ne]; omega
  have n3 : ¬ a1 < -1125899906842624 := by omega
  have n4 : ¬ a1 > 1125899906842624 := by omega
  have hix : ∀ (W : World), (Instr.index 55 (.agg #[.int .i64 2, .int .i64 1, .int .i64 2, .int .i64 4, .int .i64 1, .int .i64 2, .int .i64 2, .int .i64 5, .int .i64 6, .int .i64 3, .int .i64 3, .int .i64 2, .int .i64 1, .int .i64 7]) (.int .i64 1)).run Try.prog W = .ok (.agg #[.int .i64 2, .int .i64 4]) W := fun _ => by kernel_rfl
  go_enter Try.func10, Try.ntmps10
  go_wp2
  go_ret2
  refine ⟨.slice (some ⟨w.heap.size + 1, 0, none⟩) 2 2, rfl, R_blk (d := k48) (g := w.heap.size + 1) (base := w.heap.size) (xs := [(⟨2, a1⟩ : S48), (⟨4, -a1⟩ : S48)]) (inner := [.int .i64 2, .int .i64 a1, .int .i64 4, .int .i64 (-a1)]) ?_ (by omega) (fun ok => Reps.c2 (k48_mkM _ _ _ _) (Reps.c2 (k48_mkM _ _ _ _) (Reps.none _ _))) (by simp), by repeat (first | exact Below.refl _ _ | apply below_alloc | apply pw_below_drewN | apply below_drew1 | refine below_set ?_ (by first | (simp; done) | (simp; omega)))⟩
  have hh := blk_new (w.alloc (.cells #[.int .i64 2, .int .i64 4] 54)) (.cells #[.int .i64 2, .int .i64 a1, .int .i64 4, .int .i64 (-a1)] 48)
  simpa using hh

set_option maxHeartbeats 1000000 in
set_option maxRecDepth 100000 in
theorem lombardref17_Post.g3p (a1 : Int) (w : World) (h1 : 0 < a1) (h2 : a1 ≤ 1125899906842624) : Calls Try.prog 10 #[.int .i64 3, .int .i64 a1] w (lombardref17_Post.P w ([⟨1, a1⟩, ⟨2, -a1⟩], 0)) := by
  have q0 : (a1 == 0) = false := by rw [beq_eq_false_iff_ne]; omega
  have n3 : ¬ a1 < -1125899906842624 := by omega
  have n4 : ¬ a1 > 1125899906842624 := by omega
  have hix : ∀ (W : World), (Instr.index 55 (.agg #[.int .i64 2, .int .i64 1, .int .i64 2, .int .i64 4, .int .i64 1, .int .i64 2, .int .i64 2, .int .i64 5, .int .i64 6, .int .i64 3, .int .i64 3, .int .i64 2, .int .i64 1, .int .i64 7]) (.int .i64 2)).run Try.prog W = .ok (.agg #[.int .i64 1, .int .i64 2]) W := fun _ => by kernel_rfl
  go_enter Try.func10, Try.ntmps10
  go_wp2
  go_ret2
  refine ⟨.slice (some ⟨w.heap.size + 1, 0, none⟩) 2 2, rfl, R_blk (d := k48) (g := w.heap.size + 1) (base := w.heap.size) (xs := [(⟨1, a1⟩ : S48), (⟨2, -a1⟩ : S48)]) (inner := [.int .i64 1, .int .i64 a1, .int .i64 2, .int .i64 (-a1)]) ?_ (by omega) (fun ok => Reps.c2 (k48_mkM _ _ _ _) (Reps.c2 (k48_mkM _ _ _ _) (Reps.none _ _))) (by simp), by repeat (first | exact Below.refl _ _ | apply below_alloc | apply pw_below_drewN | apply below_drew1 | refine below_set ?_ (by first | (simp; done) | (simp; omega)))⟩
  have hh := blk_new (w.alloc (.cells #[.int .i64 1, .int .i64 2] 54)) (.cells #[.int .i64 1, .int .i64 a1, .int .i64 2, .int .i64 (-a1)] 48)
  simpa using hh

set_option maxHeartbeats 1000000 in
set_option maxRecDepth 100000 in
theorem lombardref17_Post.g4p (a1 : Int) (w : World) (h1 : 0 < a1) (h2 : a1 ≤ 1125899906842624) : Calls Try.prog 10 #[.int .i64 4, .int .i64 a1] w (lombardref17_Post.P w ([⟨2, a1⟩, ⟨5, -a1⟩], 0)) := by
  have q0 : (a1 == 0) = false := by rw [beq_eq_false_iff_ne]; omega
  have n3 : ¬ a1 < -1125899906842624 := by omega
  have n4 : ¬ a1 > 1125899906842624 := by omega
  have hix : ∀ (W : World), (Instr.index 55 (.agg #[.int .i64 2, .int .i64 1, .int .i64 2, .int .i64 4, .int .i64 1, .int .i64 2, .int .i64 2, .int .i64 5, .int .i64 6, .int .i64 3, .int .i64 3, .int .i64 2, .int .i64 1, .int .i64 7]) (.int .i64 3)).run Try.prog W = .ok (.agg #[.int .i64 2, .int .i64 5]) W := fun _ => by kernel_rfl
  go_enter Try.func10, Try.ntmps10
  go_wp2
  go_ret2
  refine ⟨.slice (some ⟨w.heap.size + 1, 0, none⟩) 2 2, rfl, R_blk (d := k48) (g := w.heap.size + 1) (base := w.heap.size) (xs := [(⟨2, a1⟩ : S48), (⟨5, -a1⟩ : S48)]) (inner := [.int .i64 2, .int .i64 a1, .int .i64 5, .int .i64 (-a1)]) ?_ (by omega) (fun ok => Reps.c2 (k48_mkM _ _ _ _) (Reps.c2 (k48_mkM _ _ _ _) (Reps.none _ _))) (by simp), by repeat (first | exact Below.refl _ _ | apply below_alloc | apply pw_below_drewN | apply below_drew1 | refine below_set ?_ (by first | (simp; done) | (simp; omega)))⟩
  have hh := blk_new (w.alloc (.cells #[.int .i64 2, .int .i64 5] 54)) (.cells #[.int .i64 2, .int .i64 a1, .int .i64 5, .int .i64 (-a1)] 48)
  simpa using hh

set_option maxHeartbeats 1000000 in
set_option maxRecDepth 100000 in
theorem lombardref17_Post.g4n (a1 : Int) (w : World) (h1 : a1 < 0) (h2 : -1125899906842624 ≤ a1) : Calls Try.prog 10 #[.int .i64 4, .int .i64 a1] w (lombardref17_Post.P w ([⟨2, a1⟩, ⟨5, -a1⟩], 0)) := by
  have q0 : (a1 == 0) = false := by rw [beq_eq_false_iff_ne]; omega
  have n3 : ¬ a1 < -1125899906842624 := by omega
  have n4 : ¬ a1 > 1125899906842624 := by omega
  have hix : ∀ (W : World), (Instr.index 55 (.agg #[.int .i64 2, .int .i64 1, .int .i64 2, .int .i64 4, .int .i64 1, .int .i64 2, .int .i64 2, .int .i64 5, .int .i64 6, .int .i64 3, .int .i64 3, .int .i64 2, .int .i64 1, .int .i64 7]) (.int .i64 3)).run Try.prog W = .ok (.agg #[.int .i64 2, .int .i64 5]) W := fun _ => by kernel_rfl
  go_enter Try.func10, Try.ntmps10
  go_wp2
  go_ret2
  refine ⟨.slice (some ⟨w.heap.size + 1, 0, none⟩) 2 2, rfl, R_blk (d := k48) (g := w.heap.size + 1) (base := w.heap.size) (xs := [(⟨2, a1⟩ : S48), (⟨5, -a1⟩ : S48)]) (inner := [.int .i64 2, .int .i64 a1, .int .i64 5, .int .i64 (-a1)]) ?_ (by omega) (fun ok => Reps.c2 (k48_mkM _ _ _ _) (Reps.c2 (k48_mkM _ _ _ _) (Reps.none _ _))) (by simp), by repeat (first | exact Below.refl _ _ | apply below_alloc | apply pw_below_drewN | apply below_drew1 | refine below_set ?_ (by first | (simp; done) | (simp; omega)))⟩
  have hh := blk_new (w.alloc (.cells #[.int .i64 2, .int .i64 5] 54)) (.cells #[.int .i64 2, .int .i64 a1, .int .i64 5, .int .i64 (-a1)] 48)
  simpa using hh

set_option maxHeartbeats 1000000 in
set_option maxRecDepth 100000 in
theorem lombardref17_Post.g5p (a1 : Int) (w : World) (h1 : 0 < a1) (h2 : a1 ≤ 1125899906842624) : Calls Try.prog 10 #[.int .i64 5, .int .i64 a1] w (lombardref17_Post.P w ([⟨6, a1⟩, ⟨3, -a1⟩], 0)) := by
  have q0 : (a1 == 0) = false := by rw [beq_eq_false_iff_ne]; omega
  have n3 : ¬ a1 < -1125899906842624 := by omega
  have n4 : ¬ a1 > 1125899906842624 := by omega
  have hix : ∀ (W : World), (Instr.index 55 (.agg #[.int .i64 2, .int .i64 1, .int .i64 2, .int .i64 4, .int .i64 1, .int .i64 2, .int .i64 2, .int .i64 5, .int .i64 6, .int .i64 3, .int .i64 3, .int .i64 2, .int .i64 1, .int .i64 7]) (.int .i64 4)).run Try.prog W = .ok (.agg #[.int .i64 6, .int .i64 3]) W := fun _ => by kernel_rfl
  go_enter Try.func10, Try.ntmps10
  go_wp2
  go_ret2
  refine ⟨.slice (some ⟨w.heap.size + 1, 0, none⟩) 2 2, rfl, R_blk (d := k48) (g := w.heap.size + 1) (base := w.heap.size) (xs := [(⟨6, a1⟩ : S48), (⟨3, -a1⟩ : S48)]) (inner := [.int .i64 6, .int .i64 a1, .int .i64 3, .int .i64 (-a1)]) ?_ (by omega) (fun ok => Reps.c2 (k48_mkM _ _ _ _) (Reps.c2 (k48_mkM _ _ _ _) (Reps.none _ _))) (by simp), by repeat (first | exact Below.refl _ _ | apply below_alloc | apply pw_below_drewN | apply below_drew1 | refine below_set ?_ (by first | (simp; done) | (simp; omega)))⟩
  have hh := blk_new (w.alloc (.cells #[.int .i64 6, .int .i64 3] 54)) (.cells #[.int .i64 6, .int .i64 a1, .int .i64 3, .int .i64 (-a1)] 48)
  simpa using hh

set_option maxHeartbeats 1000000 in
set_option maxRecDepth 100000 in
theorem lombardref17_Post.g5n (a1 : Int) (w : World) (h1 : a1 < 0) (h2 : -1125899906842624 ≤ a1) : Calls Try.prog 10 #[.int .i64 5, .int .i64 a1] w (lombardref17_Post.P w ([⟨6, a1⟩, ⟨3, -a1⟩], 0)) := by
  have q0 : (a1 == 0) = false := by rw [beq_eq_false_iff_ne]; omega
  have n3 : ¬ a1 < -1125899906842624 := by omega
  have n4 : ¬ a1 > 1125899906842624 := by omega
  have hix : ∀ (W : World), (Instr.index 55 (.agg #[.int .i64 2, .int .i64 1, .int .i64 2, .int .i64 4, .int .i64 1, .int .i64 2, .int .i64 2, .int .i64 5, .int .i64 6, .int .i64 3, .int .i64 3, .int .i64 2, .int .i64 1, .int .i64 7]) (.int .i64 4)).run Try.prog W = .ok (.agg #[.int .i64 6, .int .i64 3]) W := fun _ => by kernel_rfl
  go_enter Try.func10, Try.ntmps10
  go_wp2
  go_ret2
  refine ⟨.slice (some ⟨w.heap.size + 1, 0, none⟩) 2 2, rfl, R_blk (d := k48) (g := w.heap.size + 1) (base := w.heap.size) (xs := [(⟨6, a1⟩ : S48), (⟨3, -a1⟩ : S48)]) (inner := [.int .i64 6, .int .i64 a1, .int .i64 3, .int .i64 (-a1)]) ?_ (by omega) (fun ok => Reps.c2 (k48_mkM _ _ _ _) (Reps.c2 (k48_mkM _ _ _ _) (Reps.none _ _))) (by simp), by repeat (first | exact Below.refl _ _ | apply below_alloc | apply pw_below_drewN | apply below_drew1 | refine below_set ?_ (by first | (simp; done) | (simp; omega)))⟩
  have hh := blk_new (w.alloc (.cells #[.int .i64 6, .int .i64 3] 54)) (.cells #[.int .i64 6, .int .i64 a1, .int .i64 3, .int .i64 (-a1)] 48)
  simpa using hh

set_option maxHeartbeats 1000000 in
set_option maxRecDepth 100000 in
theorem lombardref17_Post.g6p (a1 : Int) (w : World) (h1 : 0 < a1) (h2 : a1 ≤ 1125899906842624) : Calls Try.prog 10 #[.int .i64 6, .int .i64 a1] w (lombardref17_Post.P w ([⟨3, a1⟩, ⟨2, -a1⟩], 0)) := by
  have q0 : (a1 == 0) = false := by rw [beq_eq_false_iff_ne]; omega
  have n3 : ¬ a1 < -1125899906842624 := by omega
  have n4 : ¬ a1 > 1125899906842624 := by omega
  have hix : ∀ (W : World), (Instr.index 55 (.agg #[.int .i64 2, .int .i64 1, .int .i64 2, .int .i64 4, .int .i64 1, .int .i64 2, .int .i64 2, .int .i64 5, .int .i64 6, .int .i64 3, .int .i64 3, .int .i64 2, .int .i64 1, .int .i64 7]) (.int .i64 5)).run Try.prog W = .ok (.agg #[.int .i64 3, .int .i64 2]) W := fun _ => by kernel_rfl
  go_enter Try.func10, Try.ntmps10
  go_wp2
  go_ret2
  refine ⟨.slice (some ⟨w.heap.size + 1, 0, none⟩) 2 2, rfl, R_blk (d := k48) (g := w.heap.size + 1) (base := w.heap.size) (xs := [(⟨3, a1⟩ : S48), (⟨2, -a1⟩ : S48)]) (inner := [.int .i64 3, .int .i64 a1, .int .i64 2, .int .i64 (-a1)]) ?_ (by omega) (fun ok => Reps.c2 (k48_mkM _ _ _ _) (Reps.c2 (k48_mkM _ _ _ _) (Reps.none _ _))) (by simp), by repeat (first | exact Below.refl _ _ | apply below_alloc | apply pw_below_drewN | apply below_drew1 | refine below_set ?_ (by first | (simp; done) | (simp; omega)))⟩
  have hh := blk_new (w.alloc (.cells #[.int .i64 3, .int .i64 2] 54)) (.cells #[.int .i64 3, .int .i64 a1, .int .i64 2, .int .i64 (-a1)] 48)
  simpa using hh

set_option maxHeartbeats 1000000 in
set_option maxRecDepth 100000 in
theorem lombardref17_Post.g7p (a1 : Int) (w : World) (h1 : 0 < a1) (h2 : a1 ≤ 1125899906842624) : Calls Try.prog 10 #[.int .i64 7, .int .i64 a1] w (lombardref17_Post.P w ([⟨1, a1⟩, ⟨7, -a1⟩], 0)) := by
  have q0 : (a1 == 0) = false := by rw [beq_eq_false_iff_ne]; omega
  have n3 : ¬ a1 < -1125899906842624 := by omega
  have n4 : ¬ a1 > 1125899906842624 := by omega
  have hix : ∀ (W : World), (Instr.index 55 (.agg #[.int .i64 2, .int .i64 1, .int .i64 2, .int .i64 4, .int .i64 1, .int .i64 2, .int .i64 2, .int .i64 5, .int .i64 6, .int .i64 3, .int .i64 3, .int .i64 2, .int .i64 1, .int .i64 7]) (.int .i64 6)).run Try.prog W = .ok (.agg #[.int .i64 1, .int .i64 7]) W := fun _ => by kernel_rfl
  go_enter Try.func10, Try.ntmps10
  go_wp2
  go_ret2
  refine ⟨.slice (some ⟨w.heap.size + 1, 0, none⟩) 2 2, rfl, R_blk (d := k48) (g := w.heap.size + 1) (base := w.heap.size) (xs := [(⟨1, a1⟩ : S48), (⟨7, -a1⟩ : S48)]) (inner := [.int .i64 1, .int .i64 a1, .int .i64 7, .int .i64 (-a1)]) ?_ (by omega) (fun ok => Reps.c2 (k48_mkM _ _ _ _) (Reps.c2 (k48_mkM _ _ _ _) (Reps.none _ _))) (by simp), by repeat (first | exact Below.refl _ _ | apply below_alloc | apply pw_below_drewN | apply below_drew1 | refine below_set ?_ (by first | (simp; done) | (simp; omega)))⟩
  have hh := blk_new (w.alloc (.cells #[.int .i64 1, .int .i64 7] 54)) (.cells #[.int .i64 1, .int .i64 a1, .int .i64 7, .int .i64 (-a1)] 48)
  simpa using hh

theorem lombardref17_Post.calls (a0 : Int) (a1 : Int) (r1 : List (S48)) (r2 : Int) (w : World) (h : lombardref17_Post.f a0 a1 = some (r1, r2)) :
    Calls Try.prog 10 #[.int .i64 a0, .int .i64 a1] w fun e w' => ∃ v0_ : Value, e = .returned (.tuple #[v0_, .int .i64 r2]) ∧ Kd.R k48 48 w' w.heap.size (fun _ => True) v0_ r1 ∧ Below w.heap.size w w' := by
  have key : Calls Try.prog 10 #[.int .i64 a0, .int .i64 a1] w (lombardref17_Post.P w (r1, r2)) := by
    have H := Option.some.inj h
    by_cases cb : lombardref17_Post.bad a0 a1 = true
    · rw [if_pos cb] at H
      rw [← H]
      unfold lombardref17_Post.bad at cb
      rw [decide_eq_true_eq] at cb
      by_cases c1 : a0 < 1
      · exact lombardref17_Post.b1 a0 a1 w c1
      by_cases c2 : 7 < a0
      · exact lombardref17_Post.b2 a0 a1 w c2
      by_cases c3 : a1 < -1125899906842624
      · exact lombardref17_Post.b3 a0 a1 w (by omega) (by omega) c3
      by_cases c4 : 1125899906842624 < a1
      · exact lombardref17_Post.b4 a0 a1 w (by omega) (by omega) c4
      · exact lombardref17_Post.b5 a0 a1 w (by omega) (by omega) (by omega) (by omega) (by omega) (by omega) (by omega)
    · rw [if_neg cb] at H
      unfold lombardref17_Post.bad at cb
      rw [decide_eq_true_eq] at cb
      by_cases c0 : a1 = 0
      · rw [if_pos c0] at H
        rw [← H]
        subst c0
        exact lombardref17_Post.z a0 w (by omega) (by omega)
      · rw [if_neg c0] at H
        rw [← H]
        have hk : a0 = 1 ∨ a0 = 2 ∨ a0 = 3 ∨ a0 = 4 ∨ a0 = 5 ∨ a0 = 6 ∨ a0 = 7 := by omega
        rcases hk with rfl | rfl | rfl | rfl | rfl | rfl | rfl
        · by_cases s : 0 < a1
          · exact lombardref17_Post.g1p a1 w s (by omega)
          · omega
        · by_cases s : 0 < a1
          · exact lombardref17_Post.g2p a1 w s (by omega)
          · exact lombardref17_Post.g2n a1 w (by omega) (by omega)
        · by_cases s : 0 < a1
          · exact lombardref17_Post.g3p a1 w s (by omega)
          · omega
        · by_cases s : 0 < a1
          · exact lombardref17_Post.g4p a1 w s (by omega)
          · exact lombardref17_Post.g4n a1 w (by omega) (by omega)
        · by_cases s : 0 < a1
          · exact lombardref17_Post.g5p a1 w s (by omega)
          · exact lombardref17_Post.g5n a1 w (by omega) (by omega)
        · by_cases s : 0 < a1
          · exact lombardref17_Post.g6p a1 w s (by omega)
          · omega
        · by_cases s : 0 < a1
          · exact lombardref17_Post.g7p a1 w s (by omega)
          · omega
  exact key


end Go.Proofs.Ytmafmbcgjeecjaa.Print
