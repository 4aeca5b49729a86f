-- written by this session's program wip/hybrid.py over the kit's printer, and by hand. Not trusted: Lean checks it.
import Derived.Test.YtmafmbcgjeecjaaPrint0
namespace Go.Proofs.Ytmafmbcgjeecjaa.Print
open Go.RowKit Go.Proofs.YtmafmbcgjeecjaaW.PrintWords Go.Proofs.YtmafmbcgjeecjaaW.PrintLast Go.Proofs.YtmafmbcgjeecjaaW.PrintMore
attribute [local go_sem] max2_int min2_int max_two min_two max_three min_three max_four min_four   -- for this text's walks alone
set_option linter.unusedVariables false
set_option linter.unusedSimpArgs false

/-! ### lombardref17_Account: function 16 -/
def lombardref17_Account.g (s : ByteArray) : Int := if s = (⟨#[99, 97, 115, 104]⟩ : ByteArray) then 1 else if s = (⟨#[108, 111, 97, 110, 115]⟩ : ByteArray) then 2 else if s = (⟨#[97, 108, 108, 111, 119, 97, 110, 99, 101]⟩ : ByteArray) then 3 else if s = (⟨#[105, 110, 99, 111, 109, 101]⟩ : ByteArray) then 4 else if s = (⟨#[101, 102, 102, 101, 99, 116, 115]⟩ : ByteArray) then 5 else if s = (⟨#[105, 109, 112, 97, 105, 114, 101, 100]⟩ : ByteArray) then 6 else if s = (⟨#[114, 101, 99, 111, 118, 101, 114, 101, 100]⟩ : ByteArray) then 7 else 0
def lombardref17_Account.f (a0 : ByteArray) : Option (Int) := some (lombardref17_Account.g a0)
set_option maxHeartbeats 2000000 in
set_option maxRecDepth 100000 in
theorem lombardref17_Account.w1 (w : World) : Calls Try.prog 16 #[.string (⟨#[99, 97, 115, 104]⟩ : ByteArray)] w fun e w' => e = .returned (.int .i64 1) ∧ Below w.heap.size w w' := by
  have hix0 : ∀ (x0 x1 x2 x3 x4 x5 x6 : Value) (W : World), (Instr.index 63 (.agg #[x0, x1, x2, x3, x4, x5, x6]) (.int .i64 0)).run Try.prog W = .ok x0 W := fun _ _ _ _ _ _ _ _ => by kernel_rfl
  have hix1 : ∀ (x0 x1 x2 x3 x4 x5 x6 : Value) (W : World), (Instr.index 63 (.agg #[x0, x1, x2, x3, x4, x5, x6]) (.int .i64 1)).run Try.prog W = .ok x1 W := fun _ _ _ _ _ _ _ _ => by kernel_rfl
  have hix2 : ∀ (x0 x1 x2 x3 x4 x5 x6 : Value) (W : World), (Instr.index 63 (.agg #[x0, x1, x2, x3, x4, x5, x6]) (.int .i64 2)).run Try.prog W = .ok x2 W := fun _ _ _ _ _ _ _ _ => by kernel_rfl
  have hix3 : ∀ (x0 x1 x2 x3 x4 x5 x6 : Value) (W : World), (Instr.index 63 (.agg #[x0, x1, x2, x3, x4, x5, x6]) (.int .i64 3)).run Try.prog W = .ok x3 W := fun _ _ _ _ _ _ _ _ => by kernel_rfl
  have hix4 : ∀ (x0 x1 x2 x3 x4 x5 x6 : Value) (W : World), (Instr.index 63 (.agg #[x0, x1, x2, x3, x4, x5, x6]) (.int .i64 4)).run Try.prog W = .ok x4 W := fun _ _ _ _ _ _ _ _ => by kernel_rfl
  have hix5 : ∀ (x0 x1 x2 x3 x4 x5 x6 : Value) (W : World), (Instr.index 63 (.agg #[x0, x1, x2, x3, x4, x5, x6]) (.int .i64 5)).run Try.prog W = .ok x5 W := fun _ _ _ _ _ _ _ _ => by kernel_rfl
  have hix6 : ∀ (x0 x1 x2 x3 x4 x5 x6 : Value) (W : World), (Instr.index 63 (.agg #[x0, x1, x2, x3, x4, x5, x6]) (.int .i64 6)).run Try.prog W = .ok x6 W := fun _ _ _ _ _ _ _ _ => by kernel_rfl
  go_enter Try.func16, Try.ntmps16
  go_wp2
  go_rounds 8
  go_ret
  exact ⟨rfl, by repeat (first | exact Below.refl _ _ | apply below_alloc | apply pw_below_drewN | apply below_drew1 | refine below_set ?_ (by first | (simp; done) | (simp; omega)))⟩
set_option maxHeartbeats 2000000 in
set_option maxRecDepth 100000 in
theorem lombardref17_Account.w2 (w : World) : Calls Try.prog 16 #[.string (⟨#[108, 111, 97, 110, 115]⟩ : ByteArray)] w fun e w' => e = .returned (.int .i64 2) ∧ Below w.heap.size w w' := by
  have hix0 : ∀ (x0 x1 x2 x3 x4 x5 x6 : Value) (W : World), (Instr.index 63 (.agg #[x0, x1, x2, x3, x4, x5, x6]) (.int .i64 0)).run Try.prog W = .ok x0 W := fun _ _ _ _ _ _ _ _ => by kernel_rfl
  have hix1 : ∀ (x0 x1 x2 x3 x4 x5 x6 : Value) (W : World), (Instr.index 63 (.agg #[x0, x1, x2, x3, x4, x5, x6]) (.int .i64 1)).run Try.prog W = .ok x1 W := fun _ _ _ _ _ _ _ _ => by kernel_rfl
  have hix2 : ∀ (x0 x1 x2 x3 x4 x5 x6 : Value) (W : World), (Instr.index 63 (.agg #[x0, x1, x2, x3, x4, x5, x6]) (.int .i64 2)).run Try.prog W = .ok x2 W := fun _ _ _ _ _ _ _ _ => by kernel_rfl
  have hix3 : ∀ (x0 x1 x2 x3 x4 x5 x6 : Value) (W : World), (Instr.index 63 (.agg #[x0, x1, x2, x3, x4, x5, x6]) (.int .i64 3)).run Try.prog W = .ok x3 W := fun _ _ _ _ _ _ _ _ => by kernel_rfl
  have hix4 : ∀ (x0 x1 x2 x3 x4 x5 x6 : Value) (W : World), (Instr.index 63 (.agg #[x0, x1, x2, x3, x4, x5, x6]) (.int .i64 4)).run Try.prog W = .ok x4 W := fun _ _ _ _ _ _ _ _ => by kernel_rfl
  have hix5 : ∀ (x0 x1 x2 x3 x4 x5 x6 : Value) (W : World), (Instr.index 63 (.agg #[x0, x1, x2, x3, x4, x5, x6]) (.int .i64 5)).run Try.prog W = .ok x5 W := fun _ _ _ _ _ _ _ _ => by kernel_rfl
  have hix6 : ∀ (x0 x1 x2 x3 x4 x5 x6 : Value) (W : World), (Instr.index 63 (.agg #[x0, x1, x2, x3, x4, x5, x6]) (.int .i64 6)).run Try.prog W = .ok x6 W := fun _ _ _ _ _ _ _ _ => by kernel_rfl
  go_enter Try.func16, Try.ntmps16
  go_wp2
  go_rounds 8
  go_ret
  exact ⟨rfl, by repeat (first | exact Below.refl _ _ | apply below_alloc | apply pw_below_drewN | apply below_drew1 | refine below_set ?_ (by first | (simp; done) | (simp; omega)))⟩
set_option maxHeartbeats 2000000 in
set_option maxRecDepth 100000 in
theorem lombardref17_Account.w3 (w : World) : Calls Try.prog 16 #[.string (⟨#[97, 108, 108, 111, 119, 97, 110, 99, 101]⟩ : ByteArray)] w fun e w' => e = .returned (.int .i64 3) ∧ Below w.heap.size w w' := by
  have hix0 : ∀ (x0 x1 x2 x3 x4 x5 x6 : Value) (W : World), (Instr.index 63 (.agg #[x0, x1, x2, x3, x4, x5, x6]) (.int .i64 0)).run Try.prog W = .ok x0 W := fun _ _ _ _ _ _ _ _ => by kernel_rfl
  have hix1 : ∀ (x0 x1 x2 x3 x4 x5 x6 : Value) (W : World), (Instr.index 63 (.agg #[x0, x1, x2, x3, x4, x5, x6]) (.int .i64 1)).run Try.prog W = .ok x1 W := fun _ _ _ _ _ _ _ _ => by kernel_rfl
  have hix2 : ∀ (x0 x1 x2 x3 x4 x5 x6 : Value) (W : World), (Instr.index 63 (.agg #[x0, x1, x2, x3, x4, x5, x6]) (.int .i64 2)).run Try.prog W = .ok x2 W := fun _ _ _ _ _ _ _ _ => by kernel_rfl
  have hix3 : ∀ (x0 x1 x2 x3 x4 x5 x6 : Value) (W : World), (Instr.index 63 (.agg #[x0, x1, x2, x3, x4, x5, x6]) (.int .i64 3)).run Try.prog W = .ok x3 W := fun _ _ _ _ _ _ _ _ => by kernel_rfl
  have hix4 : ∀ (x0 x1 x2 x3 x4 x5 x6 : Value) (W : World), (Instr.index 63 (.agg #[x0, x1, x2, x3, x4, x5, x6]) (.int .i64 4)).run Try.prog W = .ok x4 W := fun _ _ _ _ _ _ _ _ => by kernel_rfl
  have hix5 : ∀ (x0 x1 x2 x3 x4 x5 x6 : Value) (W : World), (Instr.index 63 (.agg #[x0, x1, x2, x3, x4, x5, x6]) (.int .i64 5)).run Try.prog W = .ok x5 W := fun _ _ _ _ _ _ _ _ => by kernel_rfl
  have hix6 : ∀ (x0 x1 x2 x3 x4 x5 x6 : Value) (W : World), (Instr.index 63 (.agg #[x0, x1, x2, x3, x4, x5, x6]) (.int .i64 6)).run Try.prog W = .ok x6 W := fun _ _ _ _ _ _ _ _ => by kernel_rfl
  go_enter Try.func16, Try.ntmps16
  go_wp2
  go_rounds 8
  go_ret
  exact ⟨rfl, by repeat (first | exact Below.refl _ _ | apply below_alloc | apply pw_below_drewN | apply below_drew1 | refine below_set ?_ (by first | (simp; done) | (simp; omega)))⟩
set_option maxHeartbeats 2000000 in
set_option maxRecDepth 100000 in
theorem lombardref17_Account.w4 (w : World) : Calls Try.prog 16 #[.string (⟨#[105, 110, 99, 111, 109, 101]⟩ : ByteArray)] w fun e w' => e = .returned (.int .i64 4) ∧ Below w.heap.size w w' := by
  have hix0 : ∀ (x0 x1 x2 x3 x4 x5 x6 : Value) (W : World), (Instr.index 63 (.agg #[x0, x1, x2, x3, x4, x5, x6]) (.int .i64 0)).run Try.prog W = .ok x0 W := fun _ _ _ _ _ _ _ _ => by kernel_rfl
  have hix1 : ∀ (x0 x1 x2 x3 x4 x5 x6 : Value) (W : World), (Instr.index 63 (.agg #[x0, x1, x2, x3, x4, x5, x6]) (.int .i64 1)).run Try.prog W = .ok x1 W := fun _ _ _ _ _ _ _ _ => by kernel_rfl
  have hix2 : ∀ (x0 x1 x2 x3 x4 x5 x6 : Value) (W : World), (Instr.index 63 (.agg #[x0, x1, x2, x3, x4, x5, x6]) (.int .i64 2)).run Try.prog W = .ok x2 W := fun _ _ _ _ _ _ _ _ => by kernel_rfl
  have hix3 : ∀ (x0 x1 x2 x3 x4 x5 x6 : Value) (W : World), (Instr.index 63 (.agg #[x0, x1, x2, x3, x4, x5, x6]) (.int .i64 3)).run Try.prog W = .ok x3 W := fun _ _ _ _ _ _ _ _ => by kernel_rfl
  have hix4 : ∀ (x0 x1 x2 x3 x4 x5 x6 : Value) (W : World), (Instr.index 63 (.agg #[x0, x1, x2, x3, x4, x5, x6]) (.int .i64 4)).run Try.prog W = .ok x4 W := fun _ _ _ _ _ _ _ _ => by kernel_rfl
  have hix5 : ∀ (x0 x1 x2 x3 x4 x5 x6 : Value) (W : World), (Instr.index 63 (.agg #[x0, x1, x2, x3, x4, x5, x6]) (.int .i64 5)).run Try.prog W = .ok x5 W := fun _ _ _ _ _ _ _ _ => by kernel_rfl
  have hix6 : ∀ (x0 x1 x2 x3 x4 x5 x6 : Value) (W : World), (Instr.index 63 (.agg #[x0, x1, x2, x3, x4, x5, x6]) (.int .i64 6)).run Try.prog W = .ok x6 W := fun _ _ _ _ _ _ _ _ => by kernel_rfl
  go_enter Try.func16, Try.ntmps16
  go_wp2
  go_rounds 8
  go_ret
  exact ⟨rfl, by repeat (first | exact Below.refl _ _ | apply below_alloc | apply pw_below_drewN | apply below_drew1 | refine below_set ?_ (by first | (simp; done) | (simp; omega)))⟩
set_option maxHeartbeats 2000000 in
set_option maxRecDepth 100000 in
theorem lombardref17_Account.w5 (w : World) : Calls Try.prog 16 #[.string (⟨#[101, 102, 102, 101, 99, 116, 115]⟩ : ByteArray)] w fun e w' => e = .returned (.int .i64 5) ∧ Below w.heap.size w w' := by
  have hix0 : ∀ (x0 x1 x2 x3 x4 x5 x6 : Value) (W : World), (Instr.index 63 (.agg #[x0, x1, x2, x3, x4, x5, x6]) (.int .i64 0)).run Try.prog W = .ok x0 W := fun _ _ _ _ _ _ _ _ => by kernel_rfl
  have hix1 : ∀ (x0 x1 x2 x3 x4 x5 x6 : Value) (W : World), (Instr.index 63 (.agg #[x0, x1, x2, x3, x4, x5, x6]) (.int .i64 1)).run Try.prog W = .ok x1 W := fun _ _ _ _ _ _ _ _ => by kernel_rfl
  have hix2 : ∀ (x0 x1 x2 x3 x4 x5 x6 : Value) (W : World), (Instr.index 63 (.agg #[x0, x1, x2, x3, x4, x5, x6]) (.int .i64 2)).run Try.prog W = .ok x2 W := fun _ _ _ _ _ _ _ _ => by kernel_rfl
  have hix3 : ∀ (x0 x1 x2 x3 x4 x5 x6 : Value) (W : World), (Instr.index 63 (.agg #[x0, x1, x2, x3, x4, x5, x6]) (.int .i64 3)).run Try.prog W = .ok x3 W := fun _ _ _ _ _ _ _ _ => by kernel_rfl
  have hix4 : ∀ (x0 x1 x2 x3 x4 x5 x6 : Value) (W : World), (Instr.index 63 (.agg #[x0, x1, x2, x3, x4, x5, x6]) (.int .i64 4)).run Try.prog W = .ok x4 W := fun _ _ _ _ _ _ _ _ => by kernel_rfl
  have hix5 : ∀ (x0 x1 x2 x3 x4 x5 x6 : Value) (W : World), (Instr.index 63 (.agg #[x0, x1, x2, x3, x4, x5, x6]) (.int .i64 5)).run Try.prog W = .ok x5 W := fun _ _ _ _ _ _ _ _ => by kernel_rfl
  have hix6 : ∀ (x0 x1 x2 x3 x4 x5 x6 : Value) (W : World), (Instr.index 63 (.agg #[x0, x1, x2, x3, x4, x5, x6]) (.int .i64 6)).run Try.prog W = .ok x6 W := fun _ _ _ _ _ _ _ _ => by kernel_rfl
  go_enter Try.func16, Try.ntmps16
  go_wp2
  go_rounds 8
  go_ret
  exact ⟨rfl, by repeat (first | exact Below.refl _ _ | apply below_alloc | apply pw_below_drewN | apply below_drew1 | refine below_set ?_ (by first | (simp; done) | (simp; omega)))⟩
set_option maxHeartbeats 2000000 in
set_option maxRecDepth 100000 in
theorem lombardref17_Account.w6 (w : World) : Calls Try.prog 16 #[.string (⟨#[105, 109, 112, 97, 105, 114, 101, 100]⟩ : ByteArray)] w fun e w' => e = .returned (.int .i64 6) ∧ Below w.heap.size w w' := by
  have hix0 : ∀ (x0 x1 x2 x3 x4 x5 x6 : Value) (W : World), (Instr.index 63 (.agg #[x0, x1, x2, x3, x4, x5, x6]) (.int .i64 0)).run Try.prog W = .ok x0 W := fun _ _ _ _ _ _ _ _ => by kernel_rfl
  have hix1 : ∀ (x0 x1 x2 x3 x4 x5 x6 : Value) (W : World), (Instr.index 63 (.agg #[x0, x1, x2, x3, x4, x5, x6]) (.int .i64 1)).run Try.prog W = .ok x1 W := fun _ _ _ _ _ _ _ _ => by kernel_rfl
  have hix2 : ∀ (x0 x1 x2 x3 x4 x5 x6 : Value) (W : World), (Instr.index 63 (.agg #[x0, x1, x2, x3, x4, x5, x6]) (.int .i64 2)).run Try.prog W = .ok x2 W := fun _ _ _ _ _ _ _ _ => by kernel_rfl
  have hix3 : ∀ (x0 x1 x2 x3 x4 x5 x6 : Value) (W : World), (Instr.index 63 (.agg #[x0, x1, x2, x3, x4, x5, x6]) (.int .i64 3)).run Try.prog W = .ok x3 W := fun _ _ _ _ _ _ _ _ => by kernel_rfl
  have hix4 : ∀ (x0 x1 x2 x3 x4 x5 x6 : Value) (W : World), (Instr.index 63 (.agg #[x0, x1, x2, x3, x4, x5, x6]) (.int .i64 4)).run Try.prog W = .ok x4 W := fun _ _ _ _ _ _ _ _ => by kernel_rfl
  have hix5 : ∀ (x0 x1 x2 x3 x4 x5 x6 : Value) (W : World), (Instr.index 63 (.agg #[x0, x1, x2, x3, x4, x5, x6]) (.int .i64 5)).run Try.prog W = .ok x5 W := fun _ _ _ _ _ _ _ _ => by kernel_rfl
  have hix6 : ∀ (x0 x1 x2 x3 x4 x5 x6 : Value) (W : World), (Instr.index 63 (.agg #[x0, x1, x2, x3, x4, x5, x6]) (.int .i64 6)).run Try.prog W = .ok x6 W := fun _ _ _ _ _ _ _ _ => by kernel_rfl
  go_enter Try.func16, Try.ntmps16
  go_wp2
  go_rounds 8
  go_ret
  exact ⟨rfl, by repeat (first | exact Below.refl _ _ | apply below_alloc | apply pw_below_drewN | apply below_drew1 | refine below_set ?_ (by first | (simp; done) | (simp; omega)))⟩
set_option maxHeartbeats 2000000 in
set_option maxRecDepth 100000 in
theorem lombardref17_Account.w7 (w : World) : Calls Try.prog 16 #[.string (⟨#[114, 101, 99, 111, 118, 101, 114, 101, 100]⟩ : ByteArray)] w fun e w' => e = .returned (.int .i64 7) ∧ Below w.heap.size w w' := by
  have hix0 : ∀ (x0 x1 x2 x3 x4 x5 x6 : Value) (W : World), (Instr.index 63 (.agg #[x0, x1, x2, x3, x4, x5, x6]) (.int .i64 0)).run Try.prog W = .ok x0 W := fun _ _ _ _ _ _ _ _ => by kernel_rfl
  have hix1 : ∀ (x0 x1 x2 x3 x4 x5 x6 : Value) (W : World), (Instr.index 63 (.agg #[x0, x1, x2, x3, x4, x5, x6]) (.int .i64 1)).run Try.prog W = .ok x1 W := fun _ _ _ _ _ _ _ _ => by kernel_rfl
  have hix2 : ∀ (x0 x1 x2 x3 x4 x5 x6 : Value) (W : World), (Instr.index 63 (.agg #[x0, x1, x2, x3, x4, x5, x6]) (.int .i64 2)).run Try.prog W = .ok x2 W := fun _ _ _ _ _ _ _ _ => by kernel_rfl
  have hix3 : ∀ (x0 x1 x2 x3 x4 x5 x6 : Value) (W : World), (Instr.index 63 (.agg #[x0, x1, x2, x3, x4, x5, x6]) (.int .i64 3)).run Try.prog W = .ok x3 W := fun _ _ _ _ _ _ _ _ => by kernel_rfl
  have hix4 : ∀ (x0 x1 x2 x3 x4 x5 x6 : Value) (W : World), (Instr.index 63 (.agg #[x0, x1, x2, x3, x4, x5, x6]) (.int .i64 4)).run Try.prog W = .ok x4 W := fun _ _ _ _ _ _ _ _ => by kernel_rfl
  have hix5 : ∀ (x0 x1 x2 x3 x4 x5 x6 : Value) (W : World), (Instr.index 63 (.agg #[x0, x1, x2, x3, x4, x5, x6]) (.int .i64 5)).run Try.prog W = .ok x5 W := fun _ _ _ _ _ _ _ _ => by kernel_rfl
  have hix6 : ∀ (x0 x1 x2 x3 x4 x5 x6 : Value) (W : World), (Instr.index 63 (.agg #[x0, x1, x2, x3, x4, x5, x6]) (.int .i64 6)).run Try.prog W = .ok x6 W := fun _ _ _ _ _ _ _ _ => by kernel_rfl
  go_enter Try.func16, Try.ntmps16
  go_wp2
  go_rounds 8
  go_ret
  exact ⟨rfl, by repeat (first | exact Below.refl _ _ | apply below_alloc | apply pw_below_drewN | apply below_drew1 | refine below_set ?_ (by first | (simp; done) | (simp; omega)))⟩
set_option maxHeartbeats 2000000 in
set_option maxRecDepth 100000 in
theorem lombardref17_Account.w0 (s : ByteArray) (w : World) (h0 : (([99, 97, 115, 104] : List UInt8) == s.toList) = false) (h1 : (([108, 111, 97, 110, 115] : List UInt8) == s.toList) = false) (h2 : (([97, 108, 108, 111, 119, 97, 110, 99, 101] : List UInt8) == s.toList) = false) (h3 : (([105, 110, 99, 111, 109, 101] : List UInt8) == s.toList) = false) (h4 : (([101, 102, 102, 101, 99, 116, 115] : List UInt8) == s.toList) = false) (h5 : (([105, 109, 112, 97, 105, 114, 101, 100] : List UInt8) == s.toList) = false) (h6 : (([114, 101, 99, 111, 118, 101, 114, 101, 100] : List UInt8) == s.toList) = false) : Calls Try.prog 16 #[.string s] w fun e w' => e = .returned (.int .i64 0) ∧ Below w.heap.size w w' := by
  have hix0 : ∀ (x0 x1 x2 x3 x4 x5 x6 : Value) (W : World), (Instr.index 63 (.agg #[x0, x1, x2, x3, x4, x5, x6]) (.int .i64 0)).run Try.prog W = .ok x0 W := fun _ _ _ _ _ _ _ _ => by kernel_rfl
  have hix1 : ∀ (x0 x1 x2 x3 x4 x5 x6 : Value) (W : World), (Instr.index 63 (.agg #[x0, x1, x2, x3, x4, x5, x6]) (.int .i64 1)).run Try.prog W = .ok x1 W := fun _ _ _ _ _ _ _ _ => by kernel_rfl
  have hix2 : ∀ (x0 x1 x2 x3 x4 x5 x6 : Value) (W : World), (Instr.index 63 (.agg #[x0, x1, x2, x3, x4, x5, x6]) (.int .i64 2)).run Try.prog W = .ok x2 W := fun _ _ _ _ _ _ _ _ => by kernel_rfl
  have hix3 : ∀ (x0 x1 x2 x3 x4 x5 x6 : Value) (W : World), (Instr.index 63 (.agg #[x0, x1, x2, x3, x4, x5, x6]) (.int .i64 3)).run Try.prog W = .ok x3 W := fun _ _ _ _ _ _ _ _ => by kernel_rfl
  have hix4 : ∀ (x0 x1 x2 x3 x4 x5 x6 : Value) (W : World), (Instr.index 63 (.agg #[x0, x1, x2, x3, x4, x5, x6]) (.int .i64 4)).run Try.prog W = .ok x4 W := fun _ _ _ _ _ _ _ _ => by kernel_rfl
  have hix5 : ∀ (x0 x1 x2 x3 x4 x5 x6 : Value) (W : World), (Instr.index 63 (.agg #[x0, x1, x2, x3, x4, x5, x6]) (.int .i64 5)).run Try.prog W = .ok x5 W := fun _ _ _ _ _ _ _ _ => by kernel_rfl
  have hix6 : ∀ (x0 x1 x2 x3 x4 x5 x6 : Value) (W : World), (Instr.index 63 (.agg #[x0, x1, x2, x3, x4, x5, x6]) (.int .i64 6)).run Try.prog W = .ok x6 W := fun _ _ _ _ _ _ _ _ => by kernel_rfl
  go_enter Try.func16, Try.ntmps16
  go_wp2
  go_rounds 8
  go_ret
  exact ⟨rfl, by repeat (first | exact Below.refl _ _ | apply below_alloc | apply pw_below_drewN | apply below_drew1 | refine below_set ?_ (by first | (simp; done) | (simp; omega)))⟩
theorem lombardref17_Account.ne {s t : ByteArray} (l : List UInt8) (hl : t.data.toList = l) (h : s ≠ t) : (l == s.toList) = false := by
  rw [beq_eq_false_iff_ne]
  intro e
  apply h
  have : s.data.toList = t.data.toList := by
    rw [← ByteArray.toList_eq s, hl, e]
  cases s; cases t
  simp at this
  rw [this]
theorem lombardref17_Account.calls (a0 : ByteArray) (r : Int) (w : World) (h : lombardref17_Account.f a0 = some r) :
    Calls Try.prog 16 #[.string a0] w fun e w' => e = .returned (.int .i64 r) ∧ Below w.heap.size w w' := by
  unfold lombardref17_Account.f at h
  obtain rfl := Option.some.inj h
  unfold lombardref17_Account.g
  by_cases c1 : a0 = (⟨#[99, 97, 115, 104]⟩ : ByteArray)
  · rw [if_pos c1]; subst c1; exact lombardref17_Account.w1 w
  by_cases c2 : a0 = (⟨#[108, 111, 97, 110, 115]⟩ : ByteArray)
  · rw [if_neg c1, if_pos c2]; subst c2; exact lombardref17_Account.w2 w
  by_cases c3 : a0 = (⟨#[97, 108, 108, 111, 119, 97, 110, 99, 101]⟩ : ByteArray)
  · rw [if_neg c1, if_neg c2, if_pos c3]; subst c3; exact lombardref17_Account.w3 w
  by_cases c4 : a0 = (⟨#[105, 110, 99, 111, 109, 101]⟩ : ByteArray)
  · rw [if_neg c1, if_neg c2, if_neg c3, if_pos c4]; subst c4; exact lombardref17_Account.w4 w
  by_cases c5 : a0 = (⟨#[101, 102, 102, 101, 99, 116, 115]⟩ : ByteArray)
  · rw [if_neg c1, if_neg c2, if_neg c3, if_neg c4, if_pos c5]; subst c5; exact lombardref17_Account.w5 w
  by_cases c6 : a0 = (⟨#[105, 109, 112, 97, 105, 114, 101, 100]⟩ : ByteArray)
  · rw [if_neg c1, if_neg c2, if_neg c3, if_neg c4, if_neg c5, if_pos c6]; subst c6; exact lombardref17_Account.w6 w
  by_cases c7 : a0 = (⟨#[114, 101, 99, 111, 118, 101, 114, 101, 100]⟩ : ByteArray)
  · rw [if_neg c1, if_neg c2, if_neg c3, if_neg c4, if_neg c5, if_neg c6, if_pos c7]; subst c7; exact lombardref17_Account.w7 w
  rw [if_neg c1, if_neg c2, if_neg c3, if_neg c4, if_neg c5, if_neg c6, if_neg c7]
  exact lombardref17_Account.w0 a0 w (lombardref17_Account.ne _ rfl c1) (lombardref17_Account.ne _ rfl c2) (lombardref17_Account.ne _ rfl c3) (lombardref17_Account.ne _ rfl c4) (lombardref17_Account.ne _ rfl c5) (lombardref17_Account.ne _ rfl c6) (lombardref17_Account.ne _ rfl c7)


end Go.Proofs.Ytmafmbcgjeecjaa.Print
