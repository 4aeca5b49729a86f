-- written by this session's program wip/hybrid.py over the kit's printer, and by hand. Not trusted: Lean checks it.
import Derived.Test.YtgeeffnokedllaaRows
import Derived.Test.YtgeeffnokedllaaPrint23
import Derived.Test.YtgeeffnokedllaaPureAllowNets
import Derived.WalkKit
import Derived.ProofKit
import Derived.OpenShut
import Derived.ShutString
import Derived.ChangeOld
import Derived.Below
import Derived.SizedLaws
namespace Go.Proofs.Ytgeeffnokedllaa.Print
open Go.RowKit Go.Proofs.YtgeeffnokedllaaW.PrintWords Go.Proofs.YtgeeffnokedllaaW.PrintLast Go.Proofs.YtgeeffnokedllaaW.PrintMore
open Go.ChangeShapes Go.WideShapes Go.ChangeAt
open Go.ChangeMaps (open_string shut_string)
set_option linter.unusedVariables false
theorem allowNets_own : ownKnob Try.prog.godebug = none := by kernel_rfl
theorem allowNets_laidOut : laidOutB Try.prog = true := by kernel_rfl
set_option maxRecDepth 100000 in
theorem allowNets_lifted (os : Os) (started : os.Started) (H : Type) (enc : TypeId × Value → H) :
    ReturnsInHanded {} Try.checked os 7 .any (Rows.allowNetsSpec.pre6 enc Try.prog Try.f7 Rows.allowNetsRow.domain false) (Rows.allowNetsSpec.post enc Try.prog Try.f7 false true false false) := by
  refine returnsInHanded_of_change_sized (C := Try.checked) allowNets_own started (by kernel_rfl) Try.func7
    (ChangeSpec.witness6 (enc := enc) (C := Try.checked) false ⟨#[], #[.agg #[.int .i64 0, .int .i64 0, .int .i64 0, .int .i64 0, .int .i64 0, .int .i64 0, .int .i64 0, .int .i64 0, .int .i64 0, .int .i64 0, .int .i64 0, .int .i64 0, .int .i64 0, .int .i64 0, .int .i64 0, .int .i64 0, .int .i64 0, .int .i64 0]], []⟩ 8 (by kernel_rfl) (by kernel_rfl) (by kernel_rfl) (by kernel_rfl)) ?_
  intro W base args ds gs before hval0 hW hcnd hsz0 _
  have hval : ∀ (j : Nat) t v, Try.f7.params[j]? = some t → args[j]? = some v → Value.okWide Try.prog W .any base t v := hval0
  have hW' := hW
  obtain ⟨p, q, hA0, hV, rfl, hfz, hnd⟩ := hW
  have hA : DataW.TrodAll enc Try.prog W 0 (fun _ => true) true Try.f7.params.toList args.toList ds p := hA0
  rw [Try.params7] at hA hval
  obtain ⟨v0, vs0, d0, ds0, p0, q0, hargs, rfl, rfl, h0, r0⟩ := trodAll_cons hA
  obtain ⟨rfl, rfl, rfl⟩ := trodAll_nil r0
  obtain rfl : args = #[v0] := by cases args; simp_all
  obtain ⟨rfl, rfl⟩ := trodVars_none hV
  have g0 := h0
  have lt0 : ∀ x ∈ p0, x.block < W.heap.size := by obtain ⟨m, hm⟩ := g0; exact DataW.trod_lt m _ _ _ hm
  obtain ⟨fuel0, hf0⟩ := h0
  obtain ⟨cs0, rfl, _⟩ := okWide_arr Try.underlying34 (hval 0 34 v0 rfl rfl)
  obtain ⟨s0, K0, wf0⟩ := opens_S34 _ _ _ hf0
  have e0 := k34_open K0
  obtain rfl : cs0 = #[.int .i64 s0.f0.f0, .int .i64 s0.f0.f1, .int .i64 s0.f0.f2, .int .i64 s0.f0.f3, .int .i64 s0.f0.f4, .int .i64 s0.f0.f5, .int .i64 s0.f1.f0, .int .i64 s0.f1.f1, .int .i64 s0.f1.f2, .int .i64 s0.f1.f3, .int .i64 s0.f1.f4, .int .i64 s0.f1.f5, .int .i64 s0.f2.f0, .int .i64 s0.f2.f1, .int .i64 s0.f2.f2, .int .i64 s0.f2.f3, .int .i64 s0.f2.f4, .int .i64 s0.f2.f5] := by cases cs0; simpa [Value.cells] using e0
  have hk := Pure.AllowNets s0 wf0
  clear hA0 hval0 hsz0
  refine (lombardlaw16_AllowNets.calls s0.f0.f0 s0.f0.f1 s0.f0.f2 s0.f0.f3 s0.f0.f4 s0.f0.f5 s0.f1.f0 s0.f1.f1 s0.f1.f2 s0.f1.f3 s0.f1.f4 s0.f1.f5 s0.f2.f0 s0.f2.f1 s0.f2.f2 s0.f2.f3 s0.f2.f4 s0.f2.f5 true W  hk).mono fun e W' he => ?_
  obtain ⟨he, bel0⟩ := he
  have bel : Below W.heap.size W W' := bel0
  subst he
  exact ⟨_, rfl, _, _, _, [], _, [], hW', trodAll_mk1 (shut_bool Try.underlying4 _), (trodAll_cons_mk (Below.trod allowNets_laidOut (by kernel_rfl) (of_decide_eq_true (by kernel_rfl)) g0 bel lt0) trodAll_mk0), rfl, bel.frame _, fun h => by cases h⟩
theorem allowNets_over : Rows.allowNetsRow.holds Try.pinned (OpenSpec.ofChange Rows.allowNetsSpec) :=
  OpenClaim.holds_of_wide 7 Try.f7 rfl rfl rfl rfl rfl rfl rfl ⟨rfl, rfl, rfl, rfl, rfl⟩ rfl rfl rfl rfl rfl (by kernel_rfl) Try.func7 (by kernel_rfl)
    (of_decide_eq_true (by kernel_rfl)) (by unfold Func.isWrapper; first | (rw [if_pos (by decide +kernel)]; kernel_rfl) | (rw [if_neg (by decide +kernel)]; exact ⟨rfl, rfl⟩))
    (fun os started H enc _ => allowNets_lifted os started H enc)
end Go.Proofs.Ytgeeffnokedllaa.Print
namespace Go.Proofs.Ytgeeffnokedllaa
/-- The row, under a short name, for the claim. -/
theorem allowNets_holds : Rows.AllowNetsSaid := Print.allowNets_over
#print axioms allowNets_holds
end Go.Proofs.Ytgeeffnokedllaa
