-- written by this session's program wip/hybrid.py over the kit's printer, and by hand. Not trusted: Lean checks it.
import Derived.Test.YtjnhlglamiegbaaRows
import Derived.Test.YtjnhlglamiegbaaPrint9
import Derived.Test.YtjnhlglamiegbaaPureStageWorse
import Derived.WalkKit
import Derived.ProofKit
import Derived.OpenShut
import Derived.ShutString
import Derived.ChangeOld
import Derived.Below
import Derived.SizedLaws
namespace Go.Proofs.Ytjnhlglamiegbaa.Print
open Go.RowKit Go.Proofs.YtjnhlglamiegbaaW.PrintWords Go.Proofs.YtjnhlglamiegbaaW.PrintLast Go.Proofs.YtjnhlglamiegbaaW.PrintMore
open Go.ChangeShapes Go.WideShapes Go.ChangeAt
open Go.ChangeMaps (open_string shut_string)
set_option linter.unusedVariables false
theorem stageWorse_own : ownKnob Try.prog.godebug = none := by kernel_rfl
theorem stageWorse_laidOut : laidOutB Try.prog = true := by kernel_rfl
set_option maxRecDepth 100000 in
theorem stageWorse_lifted (os : Os) (started : os.Started) (H : Type) (enc : TypeId × Value → H) :
    ReturnsInHanded {} Try.checked os 6 .any (Rows.stageWorseSpec.pre6 enc Try.prog Try.f6 Rows.stageWorseRow.domain false) (Rows.stageWorseSpec.post enc Try.prog Try.f6 false true false false) := by
  refine returnsInHanded_of_change_sized (C := Try.checked) stageWorse_own started (by kernel_rfl) Try.func6
    (ChangeSpec.witness6 (enc := enc) (C := Try.checked) false ⟨#[], #[.agg #[.int .i64 0, .int .i64 0, .int .i64 0, .int .i64 0, .bool false, .int .u8 0, .int .u8 0, .slice none 0 0, .slice none 0 0]], []⟩ 8 (by kernel_rfl) (by kernel_rfl) (by kernel_rfl) (by kernel_rfl)) ?_
  intro W base args ds gs before hval0 hW hcnd hsz0 _
  have hval : ∀ (j : Nat) t v, Try.f6.params[j]? = some t → args[j]? = some v → Value.okWide Try.prog W .any base t v := hval0
  have hW' := hW
  obtain ⟨p, q, hA0, hV, rfl, hfz, hnd⟩ := hW
  have hA : DataW.TrodAll enc Try.prog W 0 (fun _ => true) true Try.f6.params.toList args.toList ds p := hA0
  rw [Try.params6] at hA hval
  obtain ⟨v0, vs0, d0, ds0, p0, q0, hargs, rfl, rfl, h0, r0⟩ := trodAll_cons hA
  obtain ⟨rfl, rfl, rfl⟩ := trodAll_nil r0
  obtain rfl : args = #[v0] := by cases args; simp_all
  obtain ⟨rfl, rfl⟩ := trodVars_none hV
  have g0 := h0
  have lt0 : ∀ x ∈ p0, x.block < W.heap.size := by obtain ⟨m, hm⟩ := g0; exact DataW.trod_lt m _ _ _ hm
  obtain ⟨fuel0, hf0⟩ := h0
  obtain ⟨cs0, rfl, _⟩ := okWide_struct Try.underlying47 (hval 0 47 v0 rfl rfl)
  obtain ⟨s0, K0, wf0⟩ := opens_S47 _ _ _ hf0
  obtain ⟨A0_f4, c0_f4, A0_f5, c0_f5, e0, hc0_f4, R0_f4, hc0_f5, R0_f5⟩ := k47_open K0
  obtain rfl : cs0 = #[.int .i64 s0.f0.f0, .int .i64 s0.f0.f1, .int .i64 s0.f1.f0, .int .i64 s0.f1.f1, .bool s0.f1.f2, .int .u8 s0.f2, .int .u8 s0.f3, .slice A0_f4 s0.f4.length c0_f4, .slice A0_f5 s0.f5.length c0_f5] := by cases cs0; simpa [Value.cells] using e0
  obtain ⟨k, hk⟩ := Pure.StageWorse s0 wf0
  clear hA0 hval0 hsz0
  refine (lombardlaw14_StageWorse.calls k s0.f0.f0 s0.f0.f1 s0.f1.f0 s0.f1.f1 s0.f1.f2 s0.f2 s0.f3 _ _ s0.f4 _ _ s0.f5 true W R0_f4 hc0_f4 R0_f5 hc0_f5 hk).mono fun e W' he => ?_
  obtain ⟨he, bel0⟩ := he
  have bel : Below W.heap.size W W' := bel0
  subst he
  exact ⟨_, rfl, _, _, _, [], _, [], hW', trodAll_mk1 (shut_bool Try.underlying4 _), (trodAll_cons_mk (Below.trod stageWorse_laidOut (by kernel_rfl) (of_decide_eq_true (by kernel_rfl)) g0 bel lt0) trodAll_mk0), rfl, bel.frame _, fun h => by cases h⟩
theorem stageWorse_over : Rows.stageWorseRow.holds Try.pinned (OpenSpec.ofChange Rows.stageWorseSpec) :=
  OpenClaim.holds_of_wide 6 Try.f6 rfl rfl rfl rfl rfl rfl rfl ⟨rfl, rfl, rfl, rfl, rfl⟩ rfl rfl rfl rfl rfl (by kernel_rfl) Try.func6 (by kernel_rfl)
    (of_decide_eq_true (by kernel_rfl)) (by unfold Func.isWrapper; first | (rw [if_pos (by decide +kernel)]; kernel_rfl) | (rw [if_neg (by decide +kernel)]; exact ⟨rfl, rfl⟩))
    (fun os started H enc _ => stageWorse_lifted os started H enc)
end Go.Proofs.Ytjnhlglamiegbaa.Print
namespace Go.Proofs.Ytjnhlglamiegbaa
/-- The row, under a short name, for the claim. -/
theorem stageWorse_holds : Rows.StageWorseSaid := Print.stageWorse_over
#print axioms stageWorse_holds
end Go.Proofs.Ytjnhlglamiegbaa
