-- written by this session's program wip/hybrid.py over the kit's printer, and by hand. Not trusted: Lean checks it.
import Derived.Test.YtepgponpnijonaaRows
import Derived.Test.YtepgponpnijonaaPrint21
import Derived.Test.YtepgponpnijonaaPureBatchBack
import Derived.WalkKit
import Derived.ProofKit
import Derived.OpenShut
import Derived.ShutString
import Derived.ChangeOld
import Derived.Below
import Derived.SizedLaws
namespace Go.Proofs.Ytepgponpnijonaa.Print
open Go.RowKit Go.Proofs.YtepgponpnijonaaW.PrintWords Go.Proofs.YtepgponpnijonaaW.PrintLast Go.Proofs.YtepgponpnijonaaW.PrintMore
open Go.ChangeShapes Go.WideShapes Go.ChangeAt
open Go.ChangeMaps (open_string shut_string)
set_option linter.unusedVariables false
theorem batchBack_own : ownKnob Try.prog.godebug = none := by kernel_rfl
theorem batchBack_laidOut : laidOutB Try.prog = true := by kernel_rfl
set_option maxRecDepth 100000 in
theorem batchBack_lifted (os : Os) (started : os.Started) (H : Type) (enc : TypeId × Value → H) :
    ReturnsInHanded {} Try.checked os 5 .any (Rows.batchBackSpec.pre6 enc Try.prog Try.f5 Rows.batchBackRow.domain false) (Rows.batchBackSpec.post enc Try.prog Try.f5 false true false false) := by
  refine returnsInHanded_of_change_sized (C := Try.checked) batchBack_own started (by kernel_rfl) Try.func5
    (ChangeSpec.witness6 (enc := enc) (C := Try.checked) false ⟨#[], #[.agg #[.int .i64 0, .int .i64 0, .slice none 0 0], .slice none 0 0, .int .u16 0], []⟩ 8 (by kernel_rfl) (by kernel_rfl) (by kernel_rfl) (by kernel_rfl)) ?_
  intro W base args ds gs before hval0 hW hcnd hsz0 _
  have hval : ∀ (j : Nat) t v, Try.f5.params[j]? = some t → args[j]? = some v → Value.okWide Try.prog W .any base t v := hval0
  have hW' := hW
  obtain ⟨p, q, hA0, hV, rfl, hfz, hnd⟩ := hW
  have hA : DataW.TrodAll enc Try.prog W 0 (fun _ => true) true Try.f5.params.toList args.toList ds p := hA0
  rw [Try.params5] at hA hval
  obtain ⟨v0, vs0, d0, ds0, p0, q0, hargs, rfl, rfl, h0, r0⟩ := trodAll_cons hA
  obtain ⟨v1, vs1, d1, ds1, p1, q1, rfl, rfl, rfl, h1, r1⟩ := trodAll_cons r0
  obtain ⟨v2, vs2, d2, ds2, p2, q2, rfl, rfl, rfl, h2, r2⟩ := trodAll_cons r1
  obtain ⟨rfl, rfl, rfl⟩ := trodAll_nil r2
  obtain rfl : args = #[v0, v1, v2] := by cases args; simp_all
  obtain ⟨rfl, rfl⟩ := trodVars_none hV
  have g0 := h0
  have lt0 : ∀ x ∈ p0, x.block < W.heap.size := by obtain ⟨m, hm⟩ := g0; exact DataW.trod_lt m _ _ _ hm
  obtain ⟨fuel0, hf0⟩ := h0
  obtain ⟨cs0, rfl, _⟩ := okWide_struct Try.underlying24 (hval 0 24 v0 rfl rfl)
  obtain ⟨s0, K0, wf0⟩ := opens_S24 _ _ _ hf0
  obtain ⟨A0_f2, c0_f2, e0, hc0_f2, R0_f2⟩ := k24_open K0
  obtain rfl : cs0 = #[.int .i64 s0.f0, .int .i64 s0.f1, .slice A0_f2 s0.f2.length c0_f2] := by cases cs0; simpa [Value.cells] using e0
  have g1 := h1
  have lt1 : ∀ x ∈ p1, x.block < W.heap.size := by obtain ⟨m, hm⟩ := g1; exact DataW.trod_lt m _ _ _ hm
  obtain ⟨fuel1, hf1⟩ := h1
  obtain ⟨a1, len1, cap1, rfl⟩ := okWide_slice Try.underlying25 (hval 1 25 v1 rfl rfl)
  obtain ⟨s1, ⟨A1, c1, e1, hc1, R1⟩, wf1⟩ := (opens_slice (d := (Kd.int .u8)) (Wf := (fun n_ : Int => (Lit.int .u8 n_).wf = true)) Try.underlying25 (by kernel_rfl) (opens_int Try.underlying5)) _ _ _ hf1
  simp [Value.cells] at e1
  obtain ⟨rfl, rfl, rfl⟩ := e1
  have g2 := h2
  have lt2 : ∀ x ∈ p2, x.block < W.heap.size := by obtain ⟨m, hm⟩ := g2; exact DataW.trod_lt m _ _ _ hm
  obtain ⟨fuel2, hf2⟩ := h2
  obtain ⟨s2, K2, wf2⟩ := (opens_int Try.underlying48) _ _ _ hf2
  obtain rfl : v2 = .int .u16 s2 := by obtain ⟨b_, rfl⟩ := okWide_int Try.underlying48 (hval 2 48 v2 rfl rfl); simpa [Value.cells, Kd.int, Kd.scalar] using K2
  obtain ⟨k, hk⟩ := Pure.BatchBack s0 s1 s2 wf0 wf1 wf2
  clear hA0 hval0 hsz0
  refine (lombardlaw18_BatchBack.calls k s0.f0 s0.f1 _ _ s0.f2 _ _ s1 s2 true W R0_f2 hc0_f2 R1 hc1 hk).mono fun e W' he => ?_
  obtain ⟨he, bel0⟩ := he
  have bel : Below W.heap.size W W' := bel0
  subst he
  exact ⟨_, rfl, _, _, _, [], _, [], hW', trodAll_mk1 (shut_bool Try.underlying4 _), (trodAll_cons_mk (Below.trod batchBack_laidOut (by kernel_rfl) (of_decide_eq_true (by kernel_rfl)) g0 bel lt0) (trodAll_cons_mk (Below.trod batchBack_laidOut (by kernel_rfl) (of_decide_eq_true (by kernel_rfl)) g1 bel lt1) (trodAll_cons_mk (Below.trod batchBack_laidOut (by kernel_rfl) (of_decide_eq_true (by kernel_rfl)) g2 bel lt2) trodAll_mk0))), rfl, bel.frame _, fun h => by cases h⟩
theorem batchBack_over : Rows.batchBackRow.holds Try.pinned (OpenSpec.ofChange Rows.batchBackSpec) :=
  OpenClaim.holds_of_wide 5 Try.f5 rfl rfl rfl rfl rfl rfl rfl ⟨rfl, rfl, rfl, rfl, rfl⟩ rfl rfl rfl rfl rfl (by kernel_rfl) Try.func5 (by kernel_rfl)
    (of_decide_eq_true (by kernel_rfl)) (by unfold Func.isWrapper; first | (rw [if_pos (by decide +kernel)]; kernel_rfl) | (rw [if_neg (by decide +kernel)]; exact ⟨rfl, rfl⟩))
    (fun os started H enc _ => batchBack_lifted os started H enc)
end Go.Proofs.Ytepgponpnijonaa.Print
namespace Go.Proofs.Ytepgponpnijonaa
/-- The row, under a short name, for the claim. -/
theorem batchBack_holds : Rows.BatchBackSaid := Print.batchBack_over
#print axioms batchBack_holds
end Go.Proofs.Ytepgponpnijonaa
