-- written by this session's program wip/hybrid.py over the kit's printer, and by hand. Not trusted: Lean checks it.
import Derived.Test.YtepgponpnijonaaPrint0
import Derived.Test.YtepgponpnijonaaPrint3
import Derived.Test.YtepgponpnijonaaPrint4
namespace Go.Proofs.Ytepgponpnijonaa.Print
open Go.RowKit Go.Proofs.YtepgponpnijonaaW.PrintWords Go.Proofs.YtepgponpnijonaaW.PrintLast Go.Proofs.YtepgponpnijonaaW.PrintMore
attribute [local go_sem] max2_int min2_int max_two min_two max_three min_three max_four min_four   -- for this text's walks alone
set_option linter.unusedVariables false
set_option linter.unusedSimpArgs false

/-! ### chart_Name: function 36 -/
def chart_Name.f (a0 : Int) : Option (ByteArray) := chart_accounts.f.bind fun l => some (chart_account_int.g l a0).f1
set_option maxHeartbeats 1000000 in
theorem chart_Name.calls (a0 : Int) (r : ByteArray) (w : World) (h : chart_Name.f a0 = some r) :
    Calls Try.prog 36 #[.int .i64 a0] w fun e w' => e = .returned (.string r) ∧ Below w.heap.size w w' := by
  have hA : ∃ l, chart_accounts.f = some l ∧ l.length ≤ 100 := ⟨_, rfl, by decide⟩
  obtain ⟨l, hl, hlen⟩ := hA
  unfold chart_Name.f at h
  rw [hl] at h
  simp only [Option.bind_some] at h
  obtain rfl := Option.some.inj h
  clear h
  have HL := Aside0.mk hl
  clear hl
  have hfld : ∀ (x y : Value) (W : World), (Instr.field 73 (.agg #[x, y]) 1).run Try.prog W = .ok y W := fun _ _ _ => by kernel_rfl
  go_enter Try.func36, Try.ntmps36
  go_wp2_with (first | (go_at_call 38; refine (chart_accounts.calls _ _ HL.out).mono ?_; rintro e w1 ⟨v1, rfl, hR, hB1⟩; obtain ⟨A1, c1, rfl, hc1, hC1⟩ := Kd.R_reads hR; have HR1 := Aside0.mk hC1; have HB1 := Aside0.mk hB1; clear hR hC1 hB1) | (go_at_call 37; refine (chart_account_int.look _ _ _ _ _ HR1.out hc1 hlen).mono ?_; rintro e w2 ⟨rfl, hB2⟩; have HB2 := Aside0.mk hB2; clear hB2))
  go_ret
  exact ⟨rfl, below_step HB1.out HB2.out⟩


end Go.Proofs.Ytepgponpnijonaa.Print
